/- Lemmas -/
import Derived.Test.YtkpojedpcabojaaDoorAb15
set_option linter.unusedVariables false
set_option linter.unusedSimpArgs false
namespace Go.Ab
def Pd:List (Bool × Opd)→(List I→M)→M
 | [],k=>k []
 |(false,x)::az,k=>C2 x fun u=>Pd az fun us=>k (u::us)
 |(true,_)::az,k=>Pd az fun us=>k (.und::us)
def Q3(x:Opd)(k:SV→Nat→M):M:=match x with
 | .t n=>.get n fun _ sv=>match sv with
   | .box t=>k (.box t) n
   | .vec e sz l=>k (.vec e sz l) n
   | .pt s kk ver off r=>.get s fun cur sv'=>.need (kk=0∧off=0∧r=[]∧ver=cur) fun _=>match sv' with
     | .box t=>k (.box t) s
     |_=>.fail
   | .par h=>.get h fun _ sv'=>match sv' with
     | .box t=>k (.box t) h
     | .vec e sz l=>k (.vec e sz l) h
     | .own _ t=>k (.own [] t) h
     |_=>.fail
   | .own _ t=>k (.own [] t) n
   | .pd s ver p=>.get s fun cur sv'=>match p,sv' with
     | [0],.own inv (.ptr t)=>.need (alive ver inv [0]=true) fun _=>k (.own [] (.ptr t)) s
     |_,_=>.fail
   |_=>.fail
 |_=>.fail
def Uj(x:Opd)(k:SV→Option Nat→M):M:=match x with
 | .t n=>.get n fun _ sv=>match sv with
   | .bor s kk v=>.get s fun cur sv'=>.need (v=cur) fun _=>match kk,sv' with
     |0,.vec e sz l=>match l with
      | []=>k (.v (.list [])) none
      |y::l'=>.need (sz≠0) fun _=>k (.vec e sz (y::l')) (some s)
     |_,_=>.fail
   |_=>Q3 x fun sv s=>k sv (some s)
 |_=>Q3 x fun sv s=>k sv (some s)
def Hi:List (Bool × Opd)→List I→(List SV→List (Option Nat)→M)→M
 | [],_,k=>k [] []
 |(false,_)::az,us,k=>Hi az us.tail fun svs rs=>k (.v (us.headD .und)::svs) (none::rs)
 |(true,.nils e sz)::az,us,k=>Hi az us.tail fun svs rs=>k (.vec e sz []::svs) (none::rs)
 |(true,x)::az,us,k=>Uj x fun sv s=>Hi az us.tail fun svs rs=>k (sv::svs) (s::rs)
def Hj:List (Option Nat)→List SV→M→M
 |some s::rs,sv::outs,k=>.get s fun ver old=>.set s (ver+1) (sv.freshOf old (ver+1)) (Hj rs outs k)
 |none::rs,_::outs,k=>Hj rs outs k
 |_,_,k=>k
def somes(rs:List (Option Nat)):List Nat:=rs.filterMap id
def setR(d:Option Nat)(r:SV):M:=match d with
 |some d=>Ay d r
 |none=>.done
def N5(d:Option Nat)(f:FuncId)(az:List (Bool × Opd)):M:=Pd az fun us=>Hi az us fun svs rs=>.need ((somes rs).Nodup∧∀d',d=some d'→d' ∉ somes rs) fun _=>
 .call f svs fun r outs=>.need (∀h,r≠ .par h) fun _=>.need (∀sv∈outs,∀h,sv≠ .par h) fun _=>Hj rs outs (setR d r)
def Bw(N:Nat):List Operand→List (Bool × Opd)→Bool
 | [],[]=>true
 |x::l,(_,y)::m=>Ac N x y&&Bw N l m
 |_,_=>false
section
variable{P:Program}{N:Nat}{G:Mem}{σ:Lab}{Fr:Mem}{w0:Base}{w:World}{st:St}{a:Act}
theorem Kb{Q:St→Prop}:∀{xs:List Operand} {az:List (Bool × Opd)} {k:List I→M} {G:Mem} {σ:Lab} {st:St},Rel G σ Fr w0 st a w→Bw w0.n xs az=true→(Pd az k).wp P Q st→
 ∃us G' σ' st',G.le G'∧Rel G' σ' Fr w0 st' a w∧(k us).wp P Q st'∧us.length=az.length∧∀(i:Nat) (y:Opd) (x:Operand) (u:I),az[i]?=some (false,y)→xs[i]?=some x→us[i]?=some u→RepV G' u (a.eval x)
 | [],[],k,G,σ,st,hr,_,hq=>⟨[],G,σ,st,Mem.le.refl G,hr,hq,rfl,by simp⟩
 |x::xs,(false,y)::az,k,G,σ,st,hr,ho,hq=>by
  simp only[Bw,Bool.and_eq_true]at ho;obtain⟨u,G1,σ1,st1,hG,hr1,h1,hv⟩:=C4 hr ho.1 hq;obtain⟨us,G2,σ2,st2,hG2,hr2,h2,hl,hu⟩:=Kb hr1 ho.2 h1;refine⟨u::us,G2,σ2,st2,hG.trans hG2,hr2,h2,by simp[hl],?_⟩
  intro i y' x' u' h3 h4 h5;cases i with
  |zero=>
   simp only[List.getElem?_cons_zero,Option.some.injEq]at h4 h5;subst h4;subst h5;exact hv.mono hG2
  |succ i=>exact hu i y' x' u' (by simpa using h3) (by simpa using h4) (by simpa using h5)
 |x::xs,(true,y)::az,k,G,σ,st,hr,ho,hq=>by
  simp only[Bw,Bool.and_eq_true]at ho;obtain⟨us,G2,σ2,st2,hG2,hr2,h2,hl,hu⟩:=Kb hr ho.2 hq;refine⟨.und::us,G2,σ2,st2,hG2,hr2,h2,by simp[hl],?_⟩
  intro i y' x' u' h3 h4 h5;cases i with
  |zero=>simp at h3
  |succ i=>exact hu i y' x' u' (by simpa using h3) (by simpa using h4) (by simpa using h5)
 | [],_::_,_,_,_,_,_,ho,_=>by cases ho
 |_::_,[],_,_,_,_,_,ho,_=>by simp[Bw]at ho
def SV.lends:SV→Bool
 | .box _| .vec _ _ _| .own _ _=>true
 |_=>false
theorem SV.lends_root{sv:SV}(h:sv.lends=true):sv.root=none:=by cases sv<;>first|rfl|cases h
theorem Abu{x:Operand}{y:Opd}{k:SV→Nat→M}{Q:St→Prop}(h:Rel G σ Fr w0 st a w)(ho:Ac w0.n x y=true)(hq:(Q3 y k).wp P Q st):
 ∃sv s ver,(k sv s).wp P Q st∧st[s]?=some ver∧sv.lends=true∧RepOwn G σ w s sv (a.eval x)∧a.eval x=val a w0 s:=by
 cases y with
 |c _=>exact hq.elim
 |nils _ _=>exact hq.elim
 |t n=>
  obtain⟨rfl,hnlt⟩:=A7 ho;simp only[Q3,M.wp]at hq;cases hs:st[n]? with
  |none=>simp[hs]at hq
  |some cur=>
   obtain⟨ver,sv⟩:=cur;simp only[hs]at hq;have hrep:=h.slot hnlt hs;cases sv with
   |box t=>exact⟨_,n,_,hq,hs,rfl,hrep,(Bc (by rw[h.n];exact hnlt)).symm⟩
   |vec e sz l=>exact⟨_,n,_,hq,hs,rfl,hrep,(Bc (by rw[h.n];exact hnlt)).symm⟩
   |pt s kk ver' off r=>
    obtain⟨cur,h1,h2,h3⟩:=hrep;simp only[M.wp,h1]at hq;obtain⟨⟨rfl,rfl,rfl,hv⟩,hq⟩:=hq;obtain⟨b,h4,h5⟩:=h3 hv;obtain⟨cv,csv⟩:=cur;cases csv with
    |box t=>
     refine⟨_,s,_,hq,h1,rfl,?_⟩;obtain⟨b',cells,ty,k1,k2,k3,k4⟩:=h.slots s cv _ h1;obtain rfl:=h.wok.inj b b' _ h4 k2;exact⟨⟨b,cells,ty,h5,k2,k3,k4⟩,by rw[h5,k1]⟩
    |_=>exact hq.elim
   |own inv t=>exact⟨_,n,_,hq,hs,rfl,hrep,(Bc (by rw[h.n];exact hnlt)).symm⟩
   |pd s ver' p=>
    obtain⟨cur,h1,h2,h3⟩:=hrep;simp only[M.wp,h1]at hq;obtain⟨cv,csv⟩:=cur;simp only at hq;split at hq
    ·rename_i inv t;obtain⟨ha,hq⟩:=hq;have hown:OwnD G σ w s (.ptr t) (val a w0 s):=h.slots s cv _ h1;have e:=hown.pt_eq (h3 inv _ rfl (by simp) ha)
     exact⟨_,s,_,hq,h1,rfl,by rw[e];exact hown,e⟩
    ·exact hq.elim
   |par hh=>
    obtain⟨hv,hle⟩:=h.pars n ver hh hs;rw[Bc (by rw[h.n];exact hnlt)]at hv
    simp only[M.wp]at hq;cases h1:st[hh]? with
    |none=>simp[h1]at hq
    |some cur=>
     obtain⟨cv,csv⟩:=cur;simp only[h1]at hq;have hrep':=h.slots hh cv csv h1;rw[←hv]at hrep';cases csv with
     |box t=>exact⟨_,hh,_,hq,h1,rfl,hrep',hv⟩
     |vec e sz l=>exact⟨_,hh,_,hq,h1,rfl,hrep',hv⟩
     |own inv t=>exact⟨_,hh,_,hq,h1,rfl,hrep',hv⟩
     |_=>exact hq.elim
   |_=>exact hq.elim
theorem Abv{x:Operand}{y:Opd}{k:SV→Option Nat→M}{Q:St→Prop}(h:Rel G σ Fr w0 st a w)(ho:Ac w0.n x y=true)(hq:(Uj y k).wp P Q st):
 ∃sv r,(k sv r).wp P Q st∧((r=none∧∃u,sv= .v u∧RepV G u (a.eval x))∨∃s ver,r=some s∧st[s]?=some ver∧sv.lends=true∧RepOwn G σ w s sv (a.eval x)∧a.eval x=val a w0 s):=by
 have old:(Q3 y fun sv s=>k sv (some s)).wp P Q st→∃sv r,(k sv r).wp P Q st∧((r=none∧∃u,sv= .v u∧RepV G u (a.eval x))∨∃s ver,r=some s∧st[s]?=some ver∧sv.lends=true∧RepOwn G σ w s sv (a.eval x)∧a.eval x=val a w0 s):=by
  intro hq;obtain⟨sv,s,ver,h1,h2⟩:=Abu h ho hq;exact⟨sv,some s,h1,.inr ⟨s,ver,rfl,h2⟩⟩
 cases y with
 |c _=>exact old hq
 |nils _ _=>exact old hq
 |t n=>
  obtain⟨rfl,hnlt⟩:=A7 ho;simp only[Uj,M.wp]at hq;cases hs:st[n]? with
  |none=>simp[hs]at hq
  |some cur=>
   obtain⟨ver,sv⟩:=cur;simp only[hs]at hq;have hrep:=h.slot hnlt hs;cases sv with
   |bor s kk v=>
    obtain⟨cur,g1,g2,g3⟩:=hrep;simp only[M.wp,g1]at hq;obtain⟨hv,hq⟩:=hq;obtain⟨e,sz,l,g4,g5⟩:=g3 hv;obtain⟨cv,csv⟩:=cur;cases kk with
    |succ _=>exact hq.elim
    |zero=>
     cases csv with
     |vec e' sz' l'=>
      cases g4;have hown:VecAt G σ w (s,0) e sz l (val a w0 s):=h.slots s cv _ g1;cases l with
      |nil=>
       obtain⟨ad,cap,hc,hm⟩:=g5.len;refine⟨_,none,hq,.inl ⟨rfl,_,rfl,?_⟩⟩;obtain⟨xs,k1,_⟩:=g5;rcases k1.2 with⟨hc',_⟩|⟨g,cap',cur,hc',_,_,hn,hcm,_⟩
       ·exact RepV.list.2 ⟨none,0,hc',Nat.le_refl _,Nat.zero_le _,.inl rfl⟩
       ·exact RepV.list.2 ⟨_,cap',hc',hn,hcm,.inl rfl⟩
      |cons y l'=>
       obtain⟨hz,hq⟩:=hq;refine⟨_,some s,hq,.inr ⟨s,_,rfl,g1,rfl,g5,?_⟩⟩;obtain⟨b,hb⟩:∃b,σ b=some (s,0):=by
        obtain⟨xs,k1,k2,k3,k4⟩:=g5;rcases k1.2 with⟨_,h0⟩|⟨g,cap',cur,hc',_⟩
        ·simp at h0
        ·exact⟨g,k4 g (by rw[hc'];rfl)⟩
       obtain⟨bl,xs,post,cap,p1,_,_,p2,⟨ty,fz,p3,_⟩,_⟩:=g5.row h.wok hb (by simp)
       obtain⟨bl',xs',post',cap',q1,_,_,q2,⟨ty',fz',q3,_⟩,_⟩:=hown.row h.wok hb (by simp)
       rw[p3]at q3;cases q3;have:cap=cap':=Nat.eq_of_mul_eq_mul_right (Nat.pos_of_ne_zero hz) (p2.symm.trans q2);rw[p1,q1,this]
     |_=>exact hq.elim
   |_=>exact old hq
theorem Gj{Q:St→Prop}(h:Rel G σ Fr w0 st a w):∀{xs:List Operand} {az:List (Bool × Opd)} {us:List I} {k:List SV→List (Option Nat)→M},Bw w0.n xs az=true→us.length=az.length→
 (∀(i:Nat) (y:Opd) (x:Operand) (u:I),az[i]?=some (false,y)→xs[i]?=some x→us[i]?=some u→RepV G u (a.eval x))→(Hi az us k).wp P Q st→
 ∃svs rs,(k svs rs).wp P Q st∧svs.length=xs.length∧rs.length=xs.length∧∀(i:Nat) (sv:SV) (x:Operand),svs[i]?=some sv→xs[i]?=some x→
  (rs[i]?=some none∧((∃u,sv= .v u∧RepV G u (a.eval x))∨∃e sz,sv= .vec e sz []∧a.eval x= .slice none 0 0))∨(∃s ver,rs[i]?=some (some s)∧st[s]?=some ver∧sv.lends=true∧RepOwn G σ w s sv (a.eval x)∧a.eval x=val a w0 s)
 | [],[],us,k,_,_,_,hq=>⟨[],[],hq,rfl,rfl,by simp⟩
 |x::xs,(false,y)::az,us,k,ho,hl,hu,hq=>by
  simp only[Bw,Bool.and_eq_true]at ho;cases us with
  |nil=>simp at hl
  |cons u us=>
   obtain⟨svs,rs,h1,h2,h3,h4⟩:=Gj h ho.2 (by simpa using hl) (fun i y' x' u' a1 a2 a3=>hu (i+1) y' x' u' (by simpa using a1) (by simpa using a2) (by simpa using a3)) hq
   refine⟨.v u::svs,none::rs,h1,by simp[h2],by simp[h3],?_⟩
   intro i sv x' a1 a2;cases i with
   |zero=>
    simp only[List.getElem?_cons_zero,Option.some.injEq]at a1 a2;subst a1;subst a2;exact .inl ⟨rfl,.inl ⟨u,rfl,hu 0 y _ u rfl rfl rfl⟩⟩
   |succ i=>exact h4 i sv x' (by simpa using a1) (by simpa using a2)
 |x::xs,(true,y)::az,us,k,ho,hl,hu,hq=>by
  simp only[Bw,Bool.and_eq_true]at ho;cases us with
  |nil=>simp at hl
  |cons u us=>
   have gen:(Uj y fun sv s=>Hi az us fun svs rs=>k (sv::svs) (s::rs)).wp P Q st→∃svs rs,(k svs rs).wp P Q st∧svs.length=(x::xs).length∧rs.length=(x::xs).length∧∀(i:Nat) (sv:SV) (x':Operand),svs[i]?=some sv→(x::xs)[i]?=some x'→
    (rs[i]?=some none∧((∃u,sv= .v u∧RepV G u (a.eval x'))∨∃e sz,sv= .vec e sz []∧a.eval x'= .slice none 0 0))∨(∃s ver,rs[i]?=some (some s)∧st[s]?=some ver∧sv.lends=true∧RepOwn G σ w s sv (a.eval x')∧a.eval x'=val a w0 s):=by
    intro hq;obtain⟨sv0,r0,g1,g2⟩:=Abv h ho.1 hq;obtain⟨svs,rs,h1,h2,h3,h4⟩:=Gj h ho.2 (by simpa using hl) (fun i y' x' u' a1 a2 a3=>hu (i+1) y' x' u' (by simpa using a1) (by simpa using a2) (by simpa using a3)) g1
    refine⟨sv0::svs,r0::rs,h1,by simp[h2],by simp[h3],?_⟩
    intro i sv x' a1 a2;cases i with
    |zero=>
     simp only[List.getElem?_cons_zero,Option.some.injEq]at a1 a2;subst a1;subst a2;rcases g2 with⟨rfl,u,rfl,g3⟩|⟨s,ver,rfl,g3⟩
     ·exact .inl ⟨rfl,.inl ⟨u,rfl,g3⟩⟩
     ·exact .inr ⟨s,ver,rfl,g3⟩
    |succ i=>exact h4 i sv x' (by simpa using a1) (by simpa using a2)
   cases y with
   |t n=>exact gen hq
   |c z=>exact gen hq
   |nils e sz=>
    obtain⟨svs,rs,h1,h2,h3,h4⟩:=Gj h ho.2 (by simpa using hl) (fun i y' x' u' a1 a2 a3=>hu (i+1) y' x' u' (by simpa using a1) (by simpa using a2) (by simpa using a3)) hq
    refine⟨.vec e sz []::svs,none::rs,h1,by simp[h2],by simp[h3],?_⟩
    intro i sv x' a1 a2;cases i with
    |zero=>
     simp only[List.getElem?_cons_zero,Option.some.injEq]at a1 a2;subst a1;subst a2;exact .inl ⟨rfl,.inr ⟨e,sz,rfl,Ct ho.1⟩⟩
    |succ i=>exact h4 i sv x' (by simpa using a1) (by simpa using a2)
 | [],_::_,_,_,ho,_,_,_=>by cases ho
 |_::_,[],_,_,ho,_,_,_=>by simp[Bw]at ho
theorem Rel.many{G':Mem}{σ':Lab}{w':World}{st':St}(h:Rel G σ Fr w0 st a w)(hok:WOk G' σ' Fr w0 w')(hG:G.le G')(hlen:st'.length=st.length)
 (hs:∀s,(st'[s]?=st[s]?∧Kept σ σ' w w' s)∨∃ver old ver' new,st[s]?=some (ver,old)∧st'[s]?=some (ver',new)∧ver<ver'∧new.root=none∧(∀h,new≠ .par h)∧RepOwn G' σ' w' s new (val a w0 s)∧∀inv t,new= .own inv t→DeadOf old ver' inv t):
 Rel G' σ' Fr w0 st' a w':=by
 have kept:∀s' cur ver,st[s']?=some cur→ver≤cur.1→∃cur',st'[s']?=some cur'∧ver≤cur'.1∧(ver=cur'.1→cur'=cur∧ver=cur.1∧Kept σ σ' w w' s'):=by
  intro s' cur ver hc hv;rcases hs s' with⟨h1,h2⟩|⟨v,old,v',new,h1,h2,h3,_⟩
  ·exact⟨cur,by rw[h1];exact hc,hv,fun e=>⟨rfl,e,h2⟩⟩
  ·rw[hc]at h1;cases h1;exact⟨_,h2,by show ver≤v';simp only at hv;omega,fun e=>by exfalso;simp only at hv;have:ver=v':=e;omega⟩
 refine⟨hok,h.defers,h.n,by rw[hlen];exact h.len,?_,?_⟩
 ·intro s ver sv hsv;rcases hs s with⟨h1,h2⟩|⟨v,old,v',new,h1,h2,h3,h4,_,h5,_⟩
  ·rw[h1]at hsv;have h0:=h.slots s ver sv hsv;generalize val a w0 s=c at h0;cases sv with
   |bor s' k ver'=>
    obtain⟨cur,g1,g2,g3⟩:=h0;obtain⟨cur',k1,k2,k3⟩:=kept s' cur ver' g1 g2;refine⟨cur',k1,k2,fun e=>?_⟩
    obtain⟨rfl,e',hk⟩:=k3 e;obtain⟨e,sz,l,g4,g5⟩:=g3 e';exact⟨e,sz,l,g4,g5.tr hG fun b hb=>hk b k hb⟩
   |sub s' k ver' n=>
    obtain⟨cur,g1,g2,g3⟩:=h0;obtain⟨cur',k1,k2,k3⟩:=kept s' cur ver' g1 g2;refine⟨cur',k1,k2,fun e=>?_⟩
    obtain⟨rfl,e',hk⟩:=k3 e;obtain⟨e,sz,l,g4,g5⟩:=g3 e';exact⟨e,sz,l,g4,g5.tr hG fun b hb=>hk b k hb⟩
   |suf s' k ver' n=>
    obtain⟨cur,g1,g2,g3⟩:=h0;obtain⟨cur',k1,k2,k3⟩:=kept s' cur ver' g1 g2;refine⟨cur',k1,k2,fun e=>?_⟩
    obtain⟨rfl,e',hk⟩:=k3 e;obtain⟨e,sz,l,c0,g4,g5,g6⟩:=g3 e';exact⟨e,sz,l,c0,g4,g5.tr hG fun b hb=>hk b k hb,g6⟩
   |pt s' k ver' off r=>
    obtain⟨cur,g1,g2,g3⟩:=h0;obtain⟨cur',k1,k2,k3⟩:=kept s' cur ver' g1 g2;refine⟨cur',k1,k2,fun e=>?_⟩
    obtain⟨rfl,e',hk⟩:=k3 e;obtain⟨b,g4,g5⟩:=g3 e';exact⟨b,(hk b k g4).1,g5⟩
   |pdt s' ver' p b=>
    obtain⟨c0,hc0,h0⟩:=h0;obtain⟨cur,g1,g2,g3⟩:=h0;refine⟨c0,hc0,?_⟩;rcases hs s' with⟨k1,k2⟩|⟨v,old,v',new,k1,k2,k3,_,_,k5,k6⟩
    ·refine⟨cur,by rw[k1];exact g1,g2,fun inv t e hp ha=>?_⟩
     obtain⟨cv,csv⟩:=cur;simp only at e;subst e;exact(g3 inv t rfl hp ha).tr (show OwnD G σ w s' t (val a w0 s')from h.slots s' cv _ g1) k2
    ·rw[k1]at g1;cases g1;refine⟨_,k2,by simp only at g2 ⊢;omega,fun inv t e hp ha=>?_⟩
     simp only at e;subst e;exact(k6 inv t rfl).pt (by simp only at g2;omega) hp ha (fun i0 t0 e=>show OwnD G σ w s' t0 (val a w0 s')from h.slots s' v (.own i0 t0) (by rw[k1,e])) k5 (fun i0 t0 e ha'=>g3 i0 t0 e hp ha')
   |pd s' ver' p=>
    obtain⟨cur,g1,g2,g3⟩:=h0;rcases hs s' with⟨k1,k2⟩|⟨v,old,v',new,k1,k2,k3,_,_,k5,k6⟩
    ·refine⟨cur,by rw[k1];exact g1,g2,fun inv t e hp ha=>?_⟩
     obtain⟨cv,csv⟩:=cur;simp only at e;subst e;exact(g3 inv t rfl hp ha).tr (show OwnD G σ w s' t (val a w0 s')from h.slots s' cv _ g1) k2
    ·rw[k1]at g1;cases g1;refine⟨_,k2,by simp only at g2 ⊢;omega,fun inv t e hp ha=>?_⟩
     simp only at e;subst e;exact(k6 inv t rfl).pt (by simp only at g2;omega) hp ha (fun i0 t0 e=>show OwnD G σ w s' t0 (val a w0 s')from h.slots s' v (.own i0 t0) (by rw[k1,e])) k5 (fun i0 t0 e ha'=>g3 i0 t0 e hp ha')
   |bs s' ver' p lo n=>
    obtain⟨cur,g1,g2,g3⟩:=h0;rcases hs s' with⟨k1,k2⟩|⟨v,old,v',new,k1,k2,k3,_,_,k5,k6⟩
    ·refine⟨cur,by rw[k1];exact g1,g2,fun e0 inv t e=>?_⟩
     obtain⟨cv,csv⟩:=cur;simp only at e;subst e;exact⟨(g3 e0 inv t rfl).1,(g3 e0 inv t rfl).2.tr (show OwnD G σ w s' t (val a w0 s')from h.slots s' cv _ g1) k2⟩
    ·rw[k1]at g1;cases g1;exact⟨_,k2,by simp only at g2 ⊢;omega,fun e0=>by exfalso;simp only at g2 e0;omega⟩
   |kcl f s' ver' p=>
    obtain⟨g,c0,ty,kk,hc0,hg1,hg2,h0⟩:=h0;obtain⟨cur,g1,g2,g3⟩:=h0;have hgk:=h2 g kk hg1;refine⟨g,c0,ty,kk,hc0,hgk.1,by rw[hgk.2];exact hg2,?_⟩
    rcases hs s' with⟨k1,k2⟩|⟨v,old,v',new,k1,k2,k3,_,_,k5,k6⟩
    ·refine⟨cur,by rw[k1];exact g1,g2,fun inv t e ha=>?_⟩
     obtain⟨cv,csv⟩:=cur;simp only at e;subst e;exact(g3 inv t rfl ha).tr (show OwnD G σ w s' t (val a w0 s')from h.slots s' cv _ g1) k2
    ·rw[k1]at g1;cases g1;refine⟨_,k2,by simp only at g2 ⊢;omega,fun inv t e ha=>?_⟩
     simp only at e;subst e;exact(k6 inv t rfl).hd (by simp only at g2;omega) ha (fun i0 t0 e=>show OwnD G σ w s' t0 (val a w0 s')from h.slots s' v (.own i0 t0) (by rw[k1,e])) k5 (fun i0 t0 e ha'=>g3 i0 t0 e ha')
   |bp s' ver' p=>
    obtain⟨g,c0,ty,kk,hc0,hg1,hg2,h0⟩:=h0;obtain⟨cur,g1,g2,g3⟩:=h0;have hgk:=h2 g kk hg1;refine⟨g,c0,ty,kk,hc0,hgk.1,by rw[hgk.2];exact hg2,?_⟩
    rcases hs s' with⟨k1,k2⟩|⟨v,old,v',new,k1,k2,k3,_,_,k5,k6⟩
    ·refine⟨cur,by rw[k1];exact g1,g2,fun inv t e hp ha=>?_⟩
     obtain⟨cv,csv⟩:=cur;simp only at e;subst e;exact(g3 inv t rfl hp ha).tr (show OwnD G σ w s' t (val a w0 s')from h.slots s' cv _ g1) k2
    ·rw[k1]at g1;cases g1;refine⟨_,k2,by simp only at g2 ⊢;omega,fun inv t e hp ha=>?_⟩
     simp only at e;subst e;exact(k6 inv t rfl).pt (by simp only at g2;omega) hp ha (fun i0 t0 e=>show OwnD G σ w s' t0 (val a w0 s')from h.slots s' v (.own i0 t0) (by rw[k1,e])) k5 (fun i0 t0 e ha'=>g3 i0 t0 e hp ha')
   |ocl fb yb s' ver' p=>
    obtain⟨gb,xb,tb,kb,hb1,hb2,hb3,h0⟩:=h0;obtain⟨g,c0,ty,kk,hc0,hg1,hg2,h0⟩:=h0;obtain⟨cur,g1,g2,g3⟩:=h0;have hgk:=h2 g kk hg1;have hbk:=h2 gb kb hb1;refine⟨gb,xb,tb,kb,hbk.1,by rw[hbk.2];exact hb2,(by first|exact RepI.mono hG yb _ hb3|exact hb3),?_⟩
    refine⟨g,c0,ty,kk,hc0,hgk.1,by rw[hgk.2];exact hg2,?_⟩
    rcases hs s' with⟨k1,k2⟩|⟨v,old,v',new,k1,k2,k3,_,_,k5,k6⟩
    ·refine⟨cur,by rw[k1];exact g1,g2,fun inv t e hp ha=>?_⟩
     obtain⟨cv,csv⟩:=cur;simp only at e;subst e;exact(g3 inv t rfl hp ha).tr (show OwnD G σ w s' t (val a w0 s')from h.slots s' cv _ g1) k2
    ·rw[k1]at g1;cases g1;refine⟨_,k2,by simp only at g2 ⊢;omega,fun inv t e hp ha=>?_⟩
     simp only at e;subst e;exact(k6 inv t rfl).pt (by simp only at g2;omega) hp ha (fun i0 t0 e=>show OwnD G σ w s' t0 (val a w0 s')from h.slots s' v (.own i0 t0) (by rw[k1,e])) k5 (fun i0 t0 e ha'=>g3 i0 t0 e hp ha')
   |bd s' ver' p=>
    obtain⟨cur,g1,g2,g3⟩:=h0;rcases hs s' with⟨k1,k2⟩|⟨v,old,v',new,k1,k2,k3,_,_,k5,k6⟩
    ·refine⟨cur,by rw[k1];exact g1,g2,fun inv t e ha=>?_⟩
     obtain⟨cv,csv⟩:=cur;simp only at e;subst e;exact(g3 inv t rfl ha).tr (show OwnD G σ w s' t (val a w0 s')from h.slots s' cv _ g1) k2
    ·rw[k1]at g1;cases g1;refine⟨_,k2,by simp only at g2 ⊢;omega,fun inv t e ha=>?_⟩
     simp only at e;subst e;exact(k6 inv t rfl).hd (by simp only at g2;omega) ha (fun i0 t0 e=>show OwnD G σ w s' t0 (val a w0 s')from h.slots s' v (.own i0 t0) (by rw[k1,e])) k5 (fun i0 t0 e ha'=>g3 i0 t0 e ha')
   |cl f fs cs=>
    refine RepCl.tr h0 fun s' cu g1=>?_
    rcases hs s' with⟨k1,k2⟩|⟨v,old,v',new,k1,k2,k3,_,_,k5,k6⟩
    ·exact⟨cu,by rw[k1];exact g1,Nat.le_refl _,fun _=>rfl⟩
    ·rw[k1]at g1;cases g1;exact⟨_,k2,by simp only;omega,fun _=>rfl⟩
   |al s' ver'=>
    obtain⟨cu,g1,g2,g3⟩:=h0;rcases hs s' with⟨k1,k2⟩|⟨v,old,v',new,k1,k2,k3,_,_,k5,k6⟩
    ·exact⟨cu,by rw[k1];exact g1,g2,g3⟩
    ·rw[k1]at g1;cases g1;exact⟨_,k2,by simp only at g2 ⊢;omega,fun e=>by exfalso;simp only at g2 e;omega⟩
   |_=>
    rw[RepSV.own rfl]at h0 ⊢;exact RepOwn.tr h0 hG fun b k hb=>h2 b k hb
  ·rw[h2]at hsv;cases hsv;rw[RepSV.own h4];exact h5
 ·intro s ver hh hsv;rcases hs s with⟨h1,h2⟩|⟨v,old,v',new,h1,h2,h3,h4,h5,_⟩
  ·rw[h1]at hsv;exact h.pars s ver hh hsv
  ·rw[h2]at hsv;cases hsv;exact absurd rfl (h5 hh)
theorem H8{Q:St→Prop}{k:M}:∀{rs:List (Option Nat)} {outs:List SV} {st:St},rs.length=outs.length→(somes rs).Nodup→(Hj rs outs k).wp P Q st→
 ∃st',k.wp P Q st'∧st'.length=st.length∧(∀s,s ∉ somes rs→st'[s]?=st[s]?)∧(∀(i:Nat) s sv,rs[i]?=some (some s)→outs[i]?=some sv→∃ver old,st[s]?=some (ver,old)∧st'[s]?=some (ver+1,sv.freshOf old (ver+1)))
 | [],[],st,_,_,h=>⟨st,h,rfl,fun _ _=>rfl,by simp⟩
 |none::rs,sv::outs,st,hl,hn,h=>by
  obtain⟨st',h1,h2,h3,h4⟩:=H8 (rs:=rs) (outs:=outs) (by simpa using hl) (by simpa[somes]using hn) h
  refine⟨st',h1,h2,fun s hs=>h3 s (by simpa[somes]using hs),?_⟩
  intro i s sv' a1 a2;cases i with
  |zero=>simp at a1
  |succ i=>exact h4 i s sv' (by simpa using a1) (by simpa using a2)
 |some s0::rs,sv::outs,st,hl,hn,h=>by
  simp only[Hj,M.wp]at h;have hn':s0 ∉ somes rs∧(somes rs).Nodup:=by simpa[somes]using hn
  cases hs:st[s0]? with
  |none=>simp[hs]at h
  |some cur=>
   simp only[hs]at h;obtain⟨st',h1,h2,h3,h4⟩:=H8 (rs:=rs) (outs:=outs) (by simpa using hl) hn'.2 h
   have hlt:s0<st.length:=(List.getElem?_eq_some_iff.1 hs).1;refine⟨st',h1,by simpa using h2,?_,?_⟩
   ·intro s hs';have:s≠s0∧s ∉ somes rs:=by simpa[somes]using hs'
    rw[h3 s this.2,List.getElem?_set_ne (Ne.symm this.1)]
   ·intro i s sv' a1 a2;cases i with
    |zero=>
     simp only[List.getElem?_cons_zero,Option.some.injEq]at a1 a2;subst a1;subst a2;exact⟨cur.1,cur.2,hs,by rw[h3 s0 hn'.1];simp[hlt]⟩
    |succ i=>
     obtain⟨ver,old,k1,k2⟩:=h4 i s sv' (by simpa using a1) (by simpa using a2)
     have hne:s≠s0:=by
      rintro rfl;exact hn'.1 (List.mem_filterMap.2 ⟨some s,List.mem_of_getElem? (by simpa using a1),rfl⟩)
     rw[List.getElem?_set_ne (Ne.symm hne)]at k1;exact⟨ver,old,k1,k2⟩
 | [],_::_,_,hl,_,_=>by simp at hl
 |_::_,[],_,hl,_,_=>by simp at hl
def Lab.inner(σ:Lab)(rs:List (Option Nat)):Lab:=fun b=>match σ b with
 |some (s,k)=>match rs.idxOf? (some s)with
  |some i=>some (i,k)
  |none=>none
 |none=>none
def Mem.inner(Fr:Mem)(σ:Lab)(w:World)(rs:List (Option Nat)):Mem:=fun b=>match σ b with
 |some (s,_)=>if some s∈rs then none else w.heap[b]?
 |none=>Fr b
def Lab.outer(σ σ':Lab)(rs:List (Option Nat)):Lab:=fun b=>match σ b with
 |some (s,k)=>if some s∈rs then(match σ' b with
  |some (i,k)=>match rs[i]? with
   |some (some s)=>some (s,k)
   |_=>none
  |none=>none)else some (s,k)
 |none=>match σ' b with
  |some (i,k)=>match rs[i]? with
   |some (some s)=>some (s,k)
   |_=>none
  |none=>none
theorem Le{rs:List (Option Nat)}{s i:Nat}(hn:(somes rs).Nodup)(h:rs[i]?=some (some s)):rs.idxOf? (some s)=some i:=by
 induction rs generalizing i with
 |nil=>simp at h
 |cons r rs ih=>
  cases i with
  |zero=>
   simp only[List.getElem?_cons_zero,Option.some.injEq]at h;subst h;simp[List.idxOf?_cons]
  |succ i=>
   have h':rs[i]?=some (some s):=by simpa using h
   have hmem:s∈somes rs:=List.mem_filterMap.2 ⟨some s,List.mem_of_getElem? h',rfl⟩;have hne:r≠some s:=by
    rintro rfl;have:s ∉ somes rs∧(somes rs).Nodup:=by simpa[somes]using hn
    exact this.1 hmem
   have hn':(somes rs).Nodup:=by
    cases r with
    |none=>simpa[somes]using hn
    |some r=>have:r ∉ somes rs∧(somes rs).Nodup:=by simpa[somes]using hn
             exact this.2
   rw[List.idxOf?_cons,if_neg (by simpa using hne),ih hn' h']
   rfl
theorem Abn{rs:List (Option Nat)}{s i:Nat}(h:rs.idxOf? (some s)=some i):rs[i]?=some (some s):=by
 induction rs generalizing i with
 |nil=>simp at h
 |cons r rs ih=>
  rw[List.idxOf?_cons]at h;split at h
  ·rename_i hr;simp only[Option.some.injEq]at h;subst h;simpa using hr
  ·cases hi:rs.idxOf? (some s)with
   |none=>simp[hi]at h
   |some j=>
    simp only[hi,Option.map_some,Option.some.injEq]at h;subst h;simpa using ih hi
theorem Dp{rs:List (Option Nat)}{s:Nat}:some s∈rs↔s∈somes rs:=by simp[somes]
end
end Go.Ab
