/- Lemmas -/
import Derived.Test.YtgcccllpegilnaaGreatDoorAb3
set_option linter.unusedVariables false
set_option linter.unusedSimpArgs false
namespace Go.Ab
open Go.Op
def A7t(d:Option Nat)(x:Ar):M:=match x with
 | .c x=>A9 d (.v x) .done
 | .Cd e sz=>A9 d (.vec e sz []) .done
 | .t n=>.get n fun ver sv=>match sv with
   | .v x=>A9 d (.v x) .done
   | .vec _ _ _=>.Ba (d≠some n) fun _=>A9 d (.E0 n 0 ver) .done
   | .box _=>.Ba (d≠some n) fun _=>A9 d (.pt n 0 ver 0 []) .done
   | .E0 s k ver=>.Ba (d≠some s) fun _=>A9 d (.E0 s k ver) .done
   | .sub s k ver m=>.Ba (d≠some s) fun _=>A9 d (.sub s k ver m) .done
   | .Kk s k ver m=>.Ba (d≠some s) fun _=>A9 d (.Kk s k ver m) .done
   | .pt s k ver off r=>.Ba (d≠some s) fun _=>A9 d (.pt s k ver off r) .done
   | .rp x=>A9 d (.rp x) .done
   | .Dv _=>.fail
   | .Qd _=>.fail
   | .W8 _ _=>.fail
   | .st _=>.fail
   | .no=>A9 d .no .done
   | .par h=>.get h fun ver sv=>.Ba (d≠some h) fun _=>match sv with
     | .box _=>A9 d (.pt h 0 ver 0 []) .done
     | .vec _ _ _=>A9 d (.E0 h 0 ver) .done
     | .own _ t=>match t with
       | .ptr _=>A9 d (.pd h ver [0]) .done
       | .vec _ _ _=>A9 d (.bd h ver []) .done
       | .map _ _=>A9 d (.bd h ver []) .done
       |_=>.fail
     |_=>.fail
   | .own _ t=>.Ba (d≠some n) fun _=>match t with
     | .ptr _=>A9 d (.pd n ver [0]) .done
     | .vec _ _ _=>A9 d (.bd n ver []) .done
     | .map _ _=>A9 d (.bd n ver []) .done
     |_=>.fail
   | .pd s ver p=>.Ba (d≠some s) fun _=>A9 d (.pd s ver p) .done
   | .bd s ver p=>.Ba (d≠some s) fun _=>A9 d (.bd s ver p) .done
   | .bs s ver p lo m=>.Ba (d≠some s) fun _=>A9 d (.bs s ver p lo m) .done
def A2n(op:BinOp)(k:IntKind)(a b:Int):Option I:=match op with
 | .add=>some (.int k (k.wrap (a+b)))
 | .sub=>some (.int k (k.wrap (a - b)))
 | .mul=>some (.int k (k.wrap (a*b)))
 | .eql=>some (.bool (decide (a=b)))
 | .neq=>some (.bool (!decide (a=b)))
 | .lss=>some (.bool (decide (a<b)))
 | .leq=>some (.bool (decide (a≤b)))
 | .gtr=>some (.bool (decide (b<a)))
 | .geq=>some (.bool (decide (b≤a)))
 |_=>none
def A82(op:BinOp)(s t:List UInt8):Option I:=match op with
 | .eql=>some (.bool (decide (s=t)))
 | .neq=>some (.bool (!decide (s=t)))
 | .lss=>some (.bool (bytesLess s t))
 | .leq=>some (.bool (bytesLess s t||decide (s=t)))
 | .gtr=>some (.bool (!(bytesLess s t||decide (s=t))))
 | .geq=>some (.bool (!bytesLess s t))
 |_=>none
def As5(b:Bool)(x y:I)(k:I→M):M:=match b with
 |true=>k x
 |false=>k y
def Bhv(op:BinOp)(x y:I)(k:I→M):M:=match x,y with
 | .int ka a,.int kb b=>if ka=kb then match A2n op ka a b with
  |some r=>k r
  |none=>.fail
   else .fail
 | .str s,.str t=>match op with
   | .add=>.Ba (s.length+t.length≤maxLen) fun _=>k (.str (s++t))
   |op=>match A82 op s t with
    |some r=>k r
    |none=>.fail
 |_,_=>.fail
def Bbm(d:Option Nat)(op:BinOp)(x y:Ar):M:=Gx x fun i=>Gx y fun j=>Bhv op i j fun r=>A9 d (.v r) .done
section
variable{P:Program}{N:Nat}{G:Mem}{σ:Lab}{Fr:Mem}{w0:Base}{w:World}{st:St}{a:Act}
theorem Aq.int{k:IntKind}{n:Int}{c:Value}:Aq G (.int k n) c↔c= .int k n:=by simp[Aq,I.isAgg,A1]
theorem Aq.bool{b:Bool}{c:Value}:Aq G (.bool b) c↔c= .bool b:=by simp[Aq,I.isAgg,A1]
theorem Aq.str{s:List UInt8}{c:Value}:Aq G (.str s) c↔c= .string ⟨⟨s⟩⟩∧s.length≤maxLen:=by simp[Aq,I.isAgg,A1]
theorem beq_eq(m n:Int):(m==n)=decide (m=n):=by rw[Bool.eq_iff_iff];simp
theorem bne_eq(m n:Int):(m != n)= !decide (m=n):=by simp[bne,beq_eq]
theorem Rel.Ata{Q:St→Prop}{d:Option Nat}{x:I}{c:Value}(h:Rel G σ Fr w0 st a w)(hb:∀d',d=some d'→d'<w0.n)(hc:Aq G x c)(hq:(Ab.A9 d (.v x) .done).wp P Q st):
 ∃σ' Af,Rel G σ' Fr w0 Af (a.put d c) w∧Q Af:=h.A9 hb (sv:=.v x) (fun _ _ _ _=>hc) hq
theorem Bco{op:BinOp}{s t:List UInt8}{r:I}(h:A82 op s t=some r):∃b,r= .bool b∧Op.stringOp op ⟨⟨s⟩⟩ ⟨⟨t⟩⟩= .pure (.bool b):=by
 have e:∀l:List UInt8,(⟨⟨l⟩⟩:ByteArray).toList=l:=fun l=>by simp
 cases op<;>simp only[A82]at h<;>first|cases h|skip
 all_goals refine⟨_,rfl,?_⟩
 all_goals simp only[Op.stringOp,e]
 all_goals first
  |rfl
  |(have:(s==t)=decide (s=t):=by(rw[Bool.eq_iff_iff];simp)
    rw[this];rfl)
theorem A85{op:BinOp}{k:IntKind}{m n:Int}{r:I}(h:A2n op k m n=some r)(G:Mem):∃v,Aq G r v∧
 ∀t w,(binOp op t (.int k m) (.int k n)).run P w= .ok v w:=by
 cases op<;>simp only[A2n]at h<;>first|cases h|skip
 all_goals first
  |exact⟨_,Aq.int.2 rfl,fun t w=>by simp[Go.binOp,Op.intArith]⟩
  |exact⟨_,Aq.bool.2 rfl,fun t w=>by simp[Go.binOp,Op.intCmp,beq_eq,bne_eq]⟩
theorem Bby{o:Oper}{op:BinOp}{t u:TypeId}{x y:Operand}{x' y':Ar}(ho:o.op= .binOp op t x y u)(hx:Ax N x x'=true)(hy:Ax N y y'=true):
 Sound P N o (Bbm o.dst op x' y'):=by
 intro G σ Fr w0 st a w Q next E hN hr hw hn Au
 subst hN;obtain⟨i,h1,hi⟩:=De hr hx hw;clear hw;obtain⟨j,hw,hj⟩:=De hr hy h1;clear h1;unfold Bhv at hw;split at hw
 ·rename_i ka m kb n;split at hw
  ·rename_i hk;subst hk;split at hw
   ·rename_i r Mw;obtain⟨v,hv,B0⟩:=A85 (P:=P) Mw G;obtain⟨σ',Af,h1,h2⟩:=hr.Ata Au hv hw;refine Bv (v:=v) (w':=w) ?_ (hn G σ' Af _ w (Mem.le.refl G) h1 h2);rw[Aq.int]at hi hj;simp only[execOp,ho,hi,hj];simp[eqGuard,B0]
   ·exact hw.elim
  ·exact hw.elim
 ·rename_i s s' ;rw[Aq.str]at hi hj;split at hw
  ·obtain⟨hl,hw⟩:=hw;obtain⟨σ',Af,h1,h2⟩:=hr.Ata Au (c:=.string ⟨⟨s++s'⟩⟩) (Aq.str.2 ⟨rfl,by simpa using hl⟩) hw
   refine Bv (v:=.string ⟨⟨s++s'⟩⟩) (w':=w) ?_ (hn G σ' Af _ w (Mem.le.refl G) h1 h2);simp only[execOp,ho,hi.1,hj.1];have h63:¬(((⟨⟨s⟩⟩:ByteArray).size+(⟨⟨s'⟩⟩:ByteArray).size:Nat):Int)>IntKind.i64.max:=by
    simp only[maxLen]at hl;show ¬((s.length+s'.length:Nat):Int)>9223372036854775807;omega
   have he:(⟨⟨s⟩⟩:ByteArray)++⟨⟨s'⟩⟩=⟨⟨s++s'⟩⟩:=by
    apply ByteArray.ext;simp
   simp only[eqGuard,Go.binOp,Op.stringOp];rw[if_neg h63];simp[he]
  ·split at hw
   ·rename_i r Mw;obtain⟨b,rfl,B0⟩:=Bco Mw;obtain⟨σ',Af,h1,h2⟩:=hr.Ata Au (c:=.bool b) (Aq.bool.2 rfl) hw;refine Bv (v:=.bool b) (w':=w) ?_ (hn G σ' Af _ w (Mem.le.refl G) h1 h2);simp only[execOp,ho,hi.1,hj.1];simp[eqGuard,Go.binOp,B0]
   ·exact hw.elim
 ·exact hw.elim
theorem C1{o:Oper}{Q:St→Prop}{next:Act→World→Prop}{E:Exit→Act→World→Prop}{r:I}{v:Value}(hr:Rel G σ Fr w0 st a w)
 (hn:∀G' σ' Af a' w',G.le G'→Rel G' σ' Fr w0 Af a' w'→Q Af→next a' w') (Au:∀d,o.dst=some d→d<w0.n) (hv:Aq G r v) (hq:(A9 o.dst (.v r) .done).wp P Q st)
 (B0:(execOp a.eval o).run P w= .ok (.value v) w):o.wp P a w next E:=by
 obtain⟨σ',Af,h1,h2⟩:=hr.Ata Au hv hq;exact Bv B0 (hn G σ' Af _ w (Mem.le.refl G) h1 h2)
def Bbs(d:Option Nat)(x:Ar):M:=Gx x fun i=>match i with
 | .bool b=>A9 d (.v (.bool (!b))) .done
 |_=>.fail
theorem Bb7{o:Oper}{t:TypeId}{x:Operand}{x':Ar}(ho:o.op= .unOp .not t x)(hx:Ax N x x'=true):Sound P N o (Bbs o.dst x'):=by
 intro G σ Fr w0 st a w Q next E hN hr hw hn Au
 subst hN;obtain⟨i,h1,hi⟩:=De hr hx hw;clear hw;split at h1
 ·rename_i b;rw[Aq.bool]at hi;exact C1 hr hn Au (Aq.bool.2 rfl) h1 (by simp[execOp,ho,hi,Op.unary])
 ·exact h1.elim
def Bbr(d:Option Nat)(x:Ar):M:=Gx x fun i=>match i with
 | .int k n=>A9 d (.v (.int k (k.wrap (0 - n)))) .done
 |_=>.fail
theorem Bb6{o:Oper}{t:TypeId}{x:Operand}{x':Ar}(ho:o.op= .unOp .neg t x)(hx:Ax N x x'=true):Sound P N o (Bbr o.dst x'):=by
 intro G σ Fr w0 st a w Q next E hN hr hw hn Au
 subst hN;obtain⟨i,h1,hi⟩:=De hr hx hw;clear hw;split at h1
 ·rename_i k n;rw[Aq.int]at hi;exact C1 hr hn Au (Aq.int.2 rfl) h1 (by simp[execOp,ho,hi,Op.unary,Op.intArith])
 ·exact h1.elim
def A5t(d:Option Nat)(c x y:Ar):M:=Gx c fun i=>match i with
 | .bool b=>.ite b (Gx x fun j=>A9 d (.v j) .done) (Gx y fun j=>A9 d (.v j) .done)
 |_=>.fail
theorem A8f{o:Oper}{c x y:Operand}{c' x' y':Ar}(ho:o.op= .pick c x y)(hc:Ax N c c'=true)(hx:Ax N x x'=true)(hy:Ax N y y'=true):
 Sound P N o (A5t o.dst c' x' y'):=by
 intro G σ Fr w0 st a w Q next E hN hr hw hn Au
 subst hN;obtain⟨i,h1,hi⟩:=De hr hc hw;clear hw;split at h1
 ·rename_i b;rw[Aq.bool]at hi;cases hb:b with
  |true=>
   obtain⟨j,h2,hj⟩:=De hr hx (h1.1 hb);exact C1 hr hn Au hj h2 (by simp[execOp,ho,hi,hb,asBool])
  |false=>
   obtain⟨j,h2,hj⟩:=De hr hy (h1.2 hb);exact C1 hr hn Au hj h2 (by simp[execOp,ho,hi,hb,asBool])
 ·exact h1.elim
theorem A1o{o:Oper}{x:Operand}{x':Ar}(ho:o.op= .move x∨o.op= .assign x)(hx:Ax N x x'=true):Sound P N o (A7t o.dst x'):=by
 intro G σ Fr w0 st a w Q next E hN hr hw hn Au
 subst hN;have B0:(execOp a.eval o).run P w= .ok (.value (a.eval x)) w:=by
  rcases ho with ho|ho<;>simp[execOp,ho]
 have fin:∀{sv:SV} (_:(A9 o.dst sv .done).wp P Q st)
  (_:∀d',o.dst=some d'→∀ver,(st.set d' (ver,sv))[d']?=some (ver,sv)→Df G (σ.drop d') w (st.set d' (ver,sv)) (val (a.put (some d') (a.eval x)) w0) d' sv (a.eval x))
  (_:∀h,sv≠ .par h:=by intro _ e;cases e) (_:∀inv t,sv≠ .own inv t:=by intro _ _ e;cases e),o.wp P a w next E:=by
  intro sv hq Dw hnp hno;obtain⟨σ',Af,h1,h2⟩:=hr.A9 Au Dw hq (fun h e=>absurd e (hnp h)) hno
  exact Bv B0 (hn G σ' Af _ w (Mem.le.refl G) h1 h2)
 have look:∀{d' n:Nat} {p q:Nat × SV},o.dst=some d'→o.dst≠some n→st[n]?=some p→(st.set d' q)[n]?=some p:=by
  intro d' n p q hd Aw hp;rw[List.getElem?_set_ne]
  ·exact hp
  ·rintro rfl;exact Aw hd
 cases x' with
 |c i=>exact C1 hr hn Au (Sy hx G) hw B0
 |Cd e sz=>
  refine fin hw fun d' _ ver _=>?_
  rw[H9 hx];exact⟨[],Ew.nil w e sz,by simp[A0],by simp,by simp[Value.ownBlock]⟩
 |t n=>
  obtain⟨rfl,Cm⟩:=Dm hx;simp only[A7t,M.wp]at hw;cases hs:st[n]? with
  |none=>simp[hs]at hw
  |some cur=>
   obtain⟨ver,sv⟩:=cur;simp only[hs]at hw;have Ay:=hr.slot Cm hs;cases sv with
   |v y=>exact C1 hr hn Au Ay hw B0
   |no=>exact fin hw fun _ _ _ _=>trivial
   |rp y=>exact fin hw fun _ _ _ _=>Ay
   |vec e sz l=>
    obtain⟨Aw,hw⟩:=hw;refine fin hw fun d' hd _ _=>⟨_,look hd Aw hs,Nat.le_refl _,fun _=>⟨e,sz,l,rfl,?_⟩⟩
    exact Cw.tr Ay (Mem.le.refl G) fun b hb=>⟨Lab.C0.2 ⟨fun e=>Aw (by rw[hd,e]),hb⟩,rfl⟩
   |box t=>
    obtain⟨Aw,hw⟩:=hw;obtain⟨b,cells,ty,h1,h2,_⟩:=Ay;refine fin hw fun d' hd _ _=>⟨_,look hd Aw hs,Nat.le_refl _,fun _=>⟨b,Lab.C0.2 ⟨fun e=>Aw (by rw[hd,e]),h2⟩,h1⟩⟩
   |E0 s k Bo=>
    obtain⟨Aw,hw⟩:=hw;obtain⟨cur,h1,h2,h3⟩:=Ay;refine fin hw fun d' hd _ _=>⟨cur,look hd Aw h1,h2,fun e=>?_⟩
    obtain⟨e,sz,l,h4,h5⟩:=h3 e;exact⟨e,sz,l,h4,h5.tr (Mem.le.refl G) fun b hb=>⟨Lab.C0.2 ⟨fun e=>Aw (by rw[hd,e]),hb⟩,rfl⟩⟩
   |sub s k Bo m=>
    obtain⟨Aw,hw⟩:=hw;obtain⟨cur,h1,h2,h3⟩:=Ay;refine fin hw fun d' hd _ _=>⟨cur,look hd Aw h1,h2,fun e=>?_⟩
    obtain⟨e,sz,l,h4,h5⟩:=h3 e;exact⟨e,sz,l,h4,h5.tr (Mem.le.refl G) fun b hb=>⟨Lab.C0.2 ⟨fun e=>Aw (by rw[hd,e]),hb⟩,rfl⟩⟩
   |Kk s k Bo m=>
    obtain⟨Aw,hw⟩:=hw;obtain⟨cur,h1,h2,h3⟩:=Ay;refine fin hw fun d' hd _ _=>⟨cur,look hd Aw h1,h2,fun e=>?_⟩
    obtain⟨e,sz,l,c0,h4,h5,h6⟩:=h3 e;exact⟨e,sz,l,c0,h4,h5.tr (Mem.le.refl G) fun b hb=>⟨Lab.C0.2 ⟨fun e=>Aw (by rw[hd,e]),hb⟩,rfl⟩,h6⟩
   |pt s k Bo off r=>
    obtain⟨Aw,hw⟩:=hw;obtain⟨cur,h1,h2,h3⟩:=Ay;refine fin hw fun d' hd _ _=>⟨cur,look hd Aw h1,h2,fun e=>?_⟩
    obtain⟨b,h4,h5⟩:=h3 e;exact⟨b,Lab.C0.2 ⟨fun e=>Aw (by rw[hd,e]),h4⟩,h5⟩
   |Dv fs=>exact hw.elim
   |Qd fs=>exact hw.elim
   |W8 _ _=>exact hw.elim
   |st fs=>exact hw.elim
   |par h=>
    obtain⟨hv,hle⟩:=hr.L7 n ver h hs;rw[Ez (by rw[hr.n];exact Cm)]at hv
    simp only[M.wp]at hw;cases hh:st[h]? with
    |none=>simp[hh]at hw
    |some cur=>
     obtain⟨Bo,C9⟩:=cur;simp only[hh]at hw;obtain⟨Aw,hw⟩:=hw;have Dn:=hr.Bj h Bo C9 hh;rw[←hv]at Dn;split at hw
     ·obtain⟨b,cells,ty,h1,h2,_⟩:=Dn;refine fin hw fun d' hd _ _=>⟨_,look hd Aw hh,Nat.le_refl _,fun _=>⟨b,Lab.C0.2 ⟨fun e=>Aw (by rw[hd,e]),h2⟩,h1⟩⟩
     ·rename_i e sz l;refine fin hw fun d' hd _ _=>⟨_,look hd Aw hh,Nat.le_refl _,fun _=>⟨e,sz,l,rfl,?_⟩⟩
      exact Cw.tr Dn (Mem.le.refl G) fun b hb=>⟨Lab.C0.2 ⟨fun e=>Aw (by rw[hd,e]),hb⟩,rfl⟩
     ·rename_i inv t;have Cy:Dd G σ w h t (val a w0 h):=by rw[←hv];exact Dn
      split at hw
      ·refine fin hw fun d' hd _ _=>⟨_,look hd Aw hh,Nat.le_refl _,fun J2 t' e _ _=>?_⟩
       cases e;rw[Cb (fun e=>Aw (by rw[hd,e])),hv]
       exact Cy.pt
      ·refine fin hw fun d' hd _ _=>⟨_,look hd Aw hh,Nat.le_refl _,fun J2 t' e _=>?_⟩
       cases e;rw[Cb (fun e=>Aw (by rw[hd,e])),hv]
       exact Cy.hd rfl
      ·refine fin hw fun d' hd _ _=>⟨_,look hd Aw hh,Nat.le_refl _,fun J2 t' e _=>?_⟩
       cases e;rw[Cb (fun e=>Aw (by rw[hd,e])),hv]
       exact Cy.hd rfl
      ·exact hw.elim
     ·exact hw.elim
   |own inv t=>
    obtain⟨Aw,hw⟩:=hw;have hv:val a w0 n=a.eval (.tmp n):=Ez (by rw[hr.n];exact Cm)
    have Cy:Dd G σ w n t (val a w0 n):=by rw[hv];exact Ay
    split at hw
    ·refine fin hw fun d' hd _ _=>⟨_,look hd Aw hs,Nat.le_refl _,fun J2 t' e _ _=>?_⟩
     cases e;rw[Cb (fun e=>Aw (by rw[hd,e])), ←hv]
     exact Cy.pt
    ·refine fin hw fun d' hd _ _=>⟨_,look hd Aw hs,Nat.le_refl _,fun J2 t' e _=>?_⟩
     cases e;rw[Cb (fun e=>Aw (by rw[hd,e])), ←hv]
     exact Cy.hd rfl
    ·refine fin hw fun d' hd _ _=>⟨_,look hd Aw hs,Nat.le_refl _,fun J2 t' e _=>?_⟩
     cases e;rw[Cb (fun e=>Aw (by rw[hd,e])), ←hv]
     exact Cy.hd rfl
    ·exact hw.elim
   |pd s Bo p=>
    obtain⟨Aw,hw⟩:=hw;obtain⟨cur,h1,h2,h3⟩:=Ay;refine fin hw fun d' hd _ _=>⟨cur,look hd Aw h1,h2,fun inv t e hp ha=>?_⟩
    rw[Cb (fun e=>Aw (by rw[hd,e]))]
    exact h3 inv t e hp ha
   |bs s Bo p lo m=>
    obtain⟨Aw,hw⟩:=hw;obtain⟨cur,h1,h2,h3⟩:=Ay;refine fin hw fun d' hd _ _=>⟨cur,look hd Aw h1,h2,fun e0 inv t e=>?_⟩
    rw[Cb (fun e=>Aw (by rw[hd,e]))]
    exact h3 e0 inv t e
   |bd s Bo p=>
    obtain⟨Aw,hw⟩:=hw;obtain⟨cur,h1,h2,h3⟩:=Ay;refine fin hw fun d' hd _ _=>⟨cur,look hd Aw h1,h2,fun inv t e ha=>?_⟩
    rw[Cb (fun e=>Aw (by rw[hd,e]))]
    exact h3 inv t e ha
end

section
variable{P:Program}{N:Nat}{G:Mem}{σ:Lab}{Fr:Mem}{w0:Base}{w:World}{st:St}{a:Act}
def Lab.move(σ:Lab)(n d:Nat):Lab:=fun b=>match σ b with
 |some (s,k)=>if s=n then some (d,k)else if s=d then none else some (s,k)
 |none=>none
theorem Lab.Ba4{n d b k:Nat}(h:σ b=some (n,k)):σ.move n d b=some (d,k):=by simp[Lab.move,h]
theorem Lab.Bei{n d b s k:Nat}(h:σ b=some (s,k))(h1:s≠n)(h2:s≠d):σ.move n d b=some (s,k):=by simp[Lab.move,h,h1,h2]
theorem Lab.An9{n d b s k:Nat}(h:σ.move n d b=some (s,k)):(s=d∧σ b=some (n,k))∨(s≠n∧s≠d∧σ b=some (s,k)):=by
 unfold Lab.move at h;split at h
 ·rename_i s' k' hb;split at h
  ·rename_i e;simp only[Option.some.injEq,Prod.mk.injEq]at h;obtain⟨rfl,rfl⟩:=h;exact .inl ⟨rfl,by rw[hb,e]⟩
  ·rename_i e;split at h
   ·cases h
   ·rename_i e';simp only[Option.some.injEq,Prod.mk.injEq]at h;obtain⟨rfl,rfl⟩:=h;exact .inr ⟨e,e',hb⟩
 ·cases h
theorem Dt.move(h:Dt G σ Fr w0 w)(n d:Nat):Dt G (σ.move n d) Fr w0 w:=by
 refine⟨h.fixed,?_,?_,h.frame,h.os,h.tape,h.output,h.size,h.apart,h.Jd⟩
 ·rintro b ⟨s,k⟩ hb;rcases Lab.An9 hb with⟨_,hb⟩|⟨_,_,hb⟩<;>exact h.own b _ hb
 ·rintro b b' ⟨s,k⟩ hb Br;rcases Lab.An9 hb with⟨h1,hb⟩|⟨h1,h2,hb⟩<;>rcases Lab.An9 Br with⟨h3,Br⟩|⟨h3,h4,Br⟩
  ·exact h.inj b b' _ hb Br
  ·exact absurd h1 h4
  ·exact absurd h3 h2
  ·exact h.inj b b' _ hb Br
theorem Rel.move{n d ver Bo:Nat}{sv:SV}{old:Nat × SV}{v1:Nat}{c:Value}(h:Rel G σ Fr w0 st a w)(Sq:d<w0.n)(hn:st[n]?=some (v1,sv))(hd:st[d]?=some old)(Aw:d≠n)
 (hv:v1<ver) (L0:old.1<Bo) (hr:sv.root=none) (hc:B4 G σ w n sv c) (hnp:∀h,sv≠ .par h:=by intro _ e;cases e):
 Rel G (σ.move n d) Fr w0 ((st.set n (ver,.no)).set d (Bo,sv.fresh Bo)) (a.put (some d) c) w:=by
 have h1:=h.drop hn hv;refine h1.put Sq (h.Bm.move n d) (Mem.le.refl G) (old:=old) (by rw[List.getElem?_set_ne (Ne.symm Aw)];exact hd) L0 ?_ ?_ (fun h e=>absurd (Aa8.1 e) (hnp h)) Tc
 ·intro s' D0 b k hb;obtain⟨h2,h3⟩:=Lab.C0.1 hb;exact⟨Lab.Bei h3 h2 D0,rfl⟩
 ·rw[Df.own (by rw[Xf];exact hr),Aa9]
  exact B4.tr hc (Mem.le.refl G) fun b k hb=>⟨Lab.Ba4 hb,rfl⟩
def SV.Aba:SV→Nat→SV
 | .vec _ _ l,0=>.v (.list l)
 | .box (.one (.vec _ _ l)),1=>.box (.one (.i (.list l)))
 | .box (.st fs),j+1=>match fs[j]? with
   |some (.vec _ _ l)=>.box (.st (fs.set j (.i (.list l))))
   |_=>.box (.st fs)
 |sv,_=>sv
theorem Cw.list{G':Mem}{Bg:Nat × Nat}{e:TypeId}{sz:Nat}{l:List I}{c:Value}(h:Cw G σ w Bg e sz l c)(hG:G.le G')
 (hb:∀b,σ b=some Bg→G' b=w.heap[b]?):Aq G' (.list l) c:=by
 obtain⟨xs,h1,h2,h3,h4⟩:=h;unfold Aq;rw[if_neg (by simp[I.isAgg])]
 rcases h1.2 with⟨rfl,h0⟩|⟨g,cap,cur,rfl,_,hg,hn,hm,hs,ht⟩
 ·refine⟨none,0,by rw[h0],by omega,by simp[maxLen],.inl (List.eq_nil_of_length_eq_zero h0)⟩
 ·obtain⟨ty,fz,hg,_⟩:=hg;refine⟨_,cap,rfl,hn,hm,.inr ⟨g,0,cur,ty,fz,sz,rfl,?_,h3,?_,?_⟩⟩
  ·rw[hb g (h4 g (by simp[Value.ownBlock]))];exact hg
  ·rw[hs,Nat.zero_add];exact Nat.mul_le_mul_right _ hn
  ·rw[List.drop_zero,ht];exact A0.mono hG l xs h2
theorem Wx{l:List I}{c:Value}(h:Aq G (.list l) c):A1 G (.list l) [c]:=by
 unfold Aq at h;rwa [if_neg (by simp[I.isAgg])]at h
theorem Dz.A7u{G':Mem}{σ':Lab}{w':World}{s:Nat}{f':F}(hG:G.le G'):∀{fs:List F} {j i:Nat} {cs:List Value} {f:F},Dz G σ w s j fs cs→fs[i]?=some f→
 (∀b k,k≠j+i+1→σ b=some (s,k)→σ' b=some (s,k)∧w'.heap[b]?=w.heap[b]?)→(∀c,M8 G σ w (s,j+i+1) f c→M8 G' σ' w' (s,j+i+1) f' c)→
 Dz G' σ' w' s j (fs.set i f') cs
 | [],_,i,_,_,_,h,_,_=>by simp at h
 |f::fs,j,0,cs,f0,h,hi,hk,hv=>by
  simp only[List.getElem?_cons_zero,Option.some.injEq]at hi;subst hi;obtain⟨c,d,ecs,h1,h2⟩:=h;simp only[List.set_cons_zero,Dz];exact⟨c,d,ecs,hv c h1,Dz.tr hG h2 fun b k hjk hb=>hk b k (by omega) hb⟩
 |f::fs,j,i+1,cs,f0,h,hi,hk,hv=>by
  simp only[List.getElem?_cons_succ]at hi;obtain⟨c,d,ecs,h1,h2⟩:=h;simp only[List.set_cons_succ,Dz];refine⟨c,d,ecs,M8.tr h1 hG fun b hb=>hk b (j+1) (by omega) hb,?_⟩
  have e:j+(i+1)+1=j+1+i+1:=by omega
  rw[e]at hv;exact Dz.A7u hG h2 hi (fun b k Aw hb=>hk b k (by omega) hb) hv
def Lab.Lj(σ:Lab)(Bg:Nat × Nat):Lab:=fun b=>if σ b=some Bg then none else σ b
theorem Lab.D3{Bg Nb:Nat × Nat}{b:Nat}:σ.Lj Bg b=some Nb↔Nb≠Bg∧σ b=some Nb:=by
 unfold Lab.Lj;split
 ·rename_i h;constructor
  ·intro x;cases x
  ·rintro⟨h1,h2⟩;rw[h]at h2;cases h2;exact absurd rfl h1
 ·rename_i h;constructor
  ·intro x;exact⟨fun e=>h (by rw[x,e]),x⟩
  ·exact fun x=>x.2
def Mem.fix(G:Mem)(σ:Lab)(w:World)(Bg:Nat × Nat):Mem:=fun b=>if σ b=some Bg then w.heap[b]? else G b
theorem Mem.A9p(Bu:Dt G σ Fr w0 w)(Bg:Nat × Nat):G.le (G.fix σ w Bg):=by
 intro b o hb;unfold Mem.fix;split
 ·rename_i h;rw[(Bu.own b Bg h).1]at hb;cases hb
 ·exact hb
theorem Mem.Ax8{Bg:Nat × Nat}{b:Nat}(h:σ b=some Bg):G.fix σ w Bg b=w.heap[b]?:=by simp[Mem.fix,h]
theorem Rel.freeze{s k ver Bo:Nat}{sv:SV}{e:TypeId}{sz:Nat}{l:List I}(h:Rel G σ Fr w0 st a w)(hs:st[s]?=some (ver,sv))(hv:sv.Cx k=some (e,sz,l))(Bb:ver<Bo):
 ∃G' σ',G.le G'∧Rel G' σ' Fr w0 (st.set s (Bo,sv.Aba k)) a w∧
  (∀m c,Cw G σ w (s,k) e sz m c→Aq G' (.list m) c)∧∀b,σ b=none→G b=none→σ' b=none∧G' b=none:=by
 have hG:=Mem.A9p h.Bm (s,k);have Akw:∀m c,Cw G σ w (s,k) e sz m c→Aq (G.fix σ w (s,k)) (.list m) c:=fun m c hc=>hc.list hG fun b hb=>Mem.Ax8 hb
 refine⟨G.fix σ w (s,k),σ.Lj (s,k),hG,?_,Akw,fun b h1 h2=>⟨by simp[Lab.Lj,h1],by simp[Mem.fix,h1,h2]⟩⟩
 have Bu:Dt (G.fix σ w (s,k)) (σ.Lj (s,k)) Fr w0 w:=by
  refine⟨?_,?_,?_,h.Bm.frame,h.Bm.os,h.Bm.tape,h.Bm.output,h.Bm.size,?_,Amb.mono hG h.Bm.Jd⟩
  rotate_right
  ·intro b o hb;unfold Mem.fix;rw[if_neg (by intro e;have:=(h.Bm.own b _ e).2.1;rw[hb]at this;cases this)]
   exact h.Bm.apart b o hb
  ·intro b o hb;unfold Mem.fix at hb;split at hb
   ·exact hb
   ·exact h.Bm.fixed b o hb
  ·intro b Bg hb;obtain⟨h1,h2⟩:=Lab.D3.1 hb;obtain⟨h3,h4,h5⟩:=h.Bm.own b Bg h2;refine⟨?_,h4,h5⟩;unfold Mem.fix;rw[if_neg (by rw[h2];intro e;cases e;exact h1 rfl)]
   exact h3
  ·intro b b' Bg hb Br;exact h.Bm.inj b b' Bg (Lab.D3.1 hb).2 (Lab.D3.1 Br).2
 refine Rel.self (new:=sv.Aba k) (ver:=Bo) h Bu hG hs Bb
  (fun s' D0 b k' hb=>⟨Lab.D3.2 ⟨fun e=>D0 (by cases e;rfl),hb⟩,rfl⟩) ?_ (by
    intro h e;unfold SV.Aba at e;repeat' split at e
    all_goals first|(subst e;rw[Aks]at hv;cases hv)|cases e) (by
    intro inv t e;exfalso;unfold SV.Aba at e;repeat' split at e
    all_goals first|(subst e;cases k<;>cases hv)|cases e)
 ·have hold:=h.Bj s ver sv hs;generalize val a w0 s=c at hold ⊢;unfold SV.Cx at hv;split at hv
  ·cases hv;exact Akw _ _ hold
  ·cases hv;obtain⟨b,cells,ty,h1,h2,h3,h4⟩:=hold;refine⟨b,cells,ty,h1,Lab.D3.2 ⟨by simp,h2⟩,h3,?_⟩
   obtain⟨c',hc',h4⟩:=h4;show A1 _ _ _;rw[hc'];exact Wx (Akw _ _ h4)
  ·rename_i fs j;split at hv
   ·rename_i e' Bs l' hf;cases hv;obtain⟨b,cells,ty,h1,h2,h3,h4⟩:=hold;simp only[SV.Aba,hf];refine⟨b,cells,ty,h1,Lab.D3.2 ⟨by simp,h2⟩,h3,?_⟩
    refine Dz.A7u hG h4 hf (fun b k Aw hb=>⟨Lab.D3.2 ⟨fun e=>Aw (by cases e;omega),hb⟩,rfl⟩) fun c hc=>?_
    obtain⟨c',rfl,hc⟩:=hc;exact Wx (Akw _ _ (by rw[Nat.zero_add]at hc;exact hc))
   ·cases hv
  ·cases hv
end

def F.size:F→Nat
 | .i x=>x.size
 | .vec _ _ _=>1
def Aeq:List F→Nat
 | []=>0
 |f::fs=>f.size+Aeq fs
def allI:List F→Option (List I)
 | []=>some []
 | .i x::fs=>match allI fs with
   |some l=>some (x::l)
   |none=>none
 | .vec _ _ _::_=>none
inductive Hit where
 |item (u:I)
 |vec (k:Nat)
 deriving Inhabited
def Acu(o:Nat):Option (Nat × I)→Option (Nat × Hit)
 |some (p,u)=>some (o+p,.item u)
 |none=>none
def Ajk(sz:Nat)(l:List I):List Nat→Option (Nat × Hit)
 |i::r=>match l[i]? with
  |some y=>Acu (i*sz) (y.sub r)
  |none=>none
 | []=>none
def SV.hit(sv:SV)(k:Nat)(r:List Nat):Option (Nat × Hit):=match k with
 |0=>match sv with
  | .box (.one (.i x))=>Acu 0 (x.sub r)
  | .box (.one (.vec _ _ _))=>match r with
    | []=>some (0,.vec 1)
    |_::_=>none
  | .box (.st fs)=>match r with
    | []=>match allI fs with
      |some l=>some (0,.item (.agg l))
      |none=>none
    |j::r=>match fs[j]? with
     |some (.i y)=>Acu (Aeq (fs.take j)) (y.sub r)
     |some (.vec _ _ _)=>match r with
      | []=>some (Aeq (fs.take j),.vec (j+1))
      |_::_=>none
     |none=>none
  | .vec _ sz l=>Ajk sz l r
  |_=>none
 |j+1=>match sv.Cx (j+1)with
  |some (_,sz,l)=>Ajk sz l r
  |none=>none
def Nf(l:List I)(r:List Nat)(u:I):List I:=match r with
 |i::r=>match l[i]? with
  |some y=>l.set i (y.put r u)
  |none=>l
 | []=>l
def SV.putAt(sv:SV)(k:Nat)(r:List Nat)(u:I):SV:=match k with
 |0=>match sv with
  | .box (.one (.i x))=>.box (.one (.i (x.put r u)))
  | .box (.st fs)=>match r with
    |j::r=>match fs[j]? with
     |some (.i y)=>.box (.st (fs.set j (.i (y.put r u))))
     |_=>sv
    | []=>.box (.one (.i u))
  | .vec e sz l=>.vec e sz (Nf l r u)
  |sv=>sv
 |j+1=>match sv with
  | .box (.one (.vec e sz l))=>.box (.one (.vec e sz (Nf l r u)))
  | .box (.st fs)=>match fs[j]? with
    |some (.vec e sz l)=>.box (.st (fs.set j (.vec e sz (Nf l r u))))
    |_=>sv
  |sv=>sv
section
variable{P:Program}{N:Nat}{G:Mem}{σ:Lab}{Fr:Mem}{w0:Base}{w:World}{st:St}{a:Act}
theorem V0{o off:Nat}{q:Option (Nat × I)}{u:Hit}(h:Acu o q=some (off,u)):∃p v,q=some (p,v)∧off=o+p∧u= .item v:=by
 cases q with
 |none=>cases h
 |some q=>
  obtain⟨p,v⟩:=q;simp only[Acu,Option.some.injEq,Prod.mk.injEq]at h;exact⟨p,v,rfl,h.1.symm,h.2.symm⟩
theorem M8.length{Bg:Nat × Nat}{f:F}{cs:List Value}(h:M8 G σ w Bg f cs):cs.length=f.size:=by
 cases f with
 |i x=>exact A1.length x cs h
 |vec e sz l=>obtain⟨c,rfl,_⟩:=h;rfl
theorem Dz.nth{s:Nat}:∀{fs:List F} {j i:Nat} {cs:List Value} {f:F},Dz G σ w s j fs cs→fs[i]?=some f→
 ∃c1 c c2,cs=c1++c++c2∧c1.length=Aeq (fs.take i)∧M8 G σ w (s,j+i+1) f c∧
  (∀f' c',M8 G σ w (s,j+i+1) f' c'→Dz G σ w s j (fs.set i f') (c1++c'++c2))
 | [],_,i,_,_,_,h=>by simp at h
 |f::fs,j,0,cs,f',h,hi=>by
  simp only[List.getElem?_cons_zero,Option.some.injEq]at hi;subst hi;obtain⟨c,d,e,h1,h2⟩:=h;refine⟨[],c,d,by simpa using e,by simp[Aeq],h1,?_⟩
  intro g c' hg;exact⟨c',d,by simp,hg,h2⟩
 |f::fs,j,i+1,cs,f',h,hi=>by
  simp only[List.getElem?_cons_succ]at hi;obtain⟨c,d,e,h1,h2⟩:=h;obtain⟨c1,cc,c2,e2,hl,hr,Cs⟩:=Dz.nth h2 hi;have K9:=M8.length h1;refine⟨c++c1,cc,c2,by simp[e,e2],by simp[Aeq,K9,hl],by rw[show j+(i+1)+1=j+1+i+1 by omega];exact hr,?_⟩
  intro g c' hg;refine⟨c,c1++c'++c2,by simp,h1,Cs g c' (by rw[show j+(i+1)+1=j+1+i+1 by omega]at hg;exact hg)⟩
theorem Dz.allI{s:Nat}:∀{fs:List F} {j:Nat} {cs:List Value} {l:List I},Dz G σ w s j fs cs→allI fs=some l→A0 G l cs
 | [],_,_,_,h,hl=>by
   simp only[Ab.allI,Option.some.injEq]at hl;subst hl;simpa only[A0,Dz]using h
 | .i x::fs,j,cs,l,h,hl=>by
   simp only[Ab.allI]at hl;split at hl
   ·rename_i m hm;simp only[Option.some.injEq]at hl;subst hl;obtain⟨c,d,e,h1,h2⟩:=h;simp only[A0];exact⟨c,d,e,h1,Dz.allI h2 hm⟩
   ·cases hl
 | .vec _ _ _::fs,j,cs,l,h,hl=>by simp[Ab.allI]at hl
theorem Cw.row{Bg:Nat × Nat}{e:TypeId}{sz:Nat}{l:List I}{c:Value}{b:Nat}(h:Cw G σ w Bg e sz l c)(Bu:Dt G σ Fr w0 w)(hb:σ b=some Bg)(Aw:l≠[]):
 ∃bl xs post cap,c= .slice (some ⟨b,0,none⟩) l.length cap∧l.length≤cap∧cap≤maxLen∧bl.size=cap*sz∧Row w b e bl∧bl.toList=xs++post∧A0 G l xs∧(∀x∈l,x.size=sz):=by
 obtain⟨xs,h1,h2,h3,h4⟩:=h;rcases h1.2 with⟨rfl,h0⟩|⟨g,cap,cur,rfl,_,hg,hn,hm,hs,ht⟩
 ·exact absurd (List.eq_nil_of_length_eq_zero h0) Aw
 ·obtain rfl:=Bu.inj b g Bg hb (h4 g (by simp[Value.ownBlock]))
  exact⟨cur,xs,cur.toList.drop (l.length*sz),cap,rfl,hn,hm,hs,hg,by rw[←ht,List.take_append_drop],h2,h3⟩
theorem Abg{Bg:Nat × Nat}{e:TypeId}{sz:Nat}{l:List I}{c:Value}{b off:Nat}{r:List Nat}{q:Hit}(h:Cw G σ w Bg e sz l c)(Bu:Dt G σ Fr w0 w)(hb:σ b=some Bg)
 (hh:Ajk sz l r=some (off,q)):∃u,q= .item u∧∃bl pre cs post,Row w b e bl∧bl.toList=pre++cs++post∧pre.length=off∧A1 G u cs∧
   (∀u' E5,u'.size=u.size→A1 G u' E5→Cw G σ (w.setRow b (pre++E5++post).toArray) Bg e sz (Nf l r u') c):=by
 cases r with
 |nil=>cases hh
 |cons i r=>
  simp only[Ajk]at hh;cases hy:l[i]? with
  |none=>simp[hy]at hh
  |some y=>
   simp only[hy]at hh;obtain⟨p,v,h1,rfl,rfl⟩:=V0 hh;have hi:i<l.length:=(List.getElem?_eq_some_iff.1 hy).1;obtain⟨bl,xs,post,cap,hc,hn,hm,hs,hg,hbl,hr,Bk⟩:=h.row Bu hb (by intro e;subst e;simp at hi)
   obtain⟨c1,cc,c2,e1,e2,e3,Cs⟩:=A0.nth i hr hy;obtain⟨d1,d,d2,e4,e5,e6,Fe⟩:=A1.put r e3 h1;have Tp:Ck (l.take i)=i*sz:=by
    rw[Dc (sz:=sz) fun z hz=>Bk z (List.mem_of_mem_take hz),List.length_take,Nat.min_eq_left (Nat.le_of_lt hi)]
   refine⟨v,rfl,bl,c1++d1,d,d2++c2++post,hg,by simp[hbl,e1,e4],by simp[e2,e5,Tp],e6,?_⟩
   intro u' E5 hu Gg;have Dw:=Cs _ _ (Fe u' E5 hu Gg);have Y4:=A1.length _ _ e6;have J5:=A1.length _ _ Gg;have hxl:xs.length=l.length*sz:=by rw[A0.length _ _ hr,Dc Bk]
   have Ly:(c1++(d1++E5++d2)++c2).length=l.length*sz:=by
    rw[←hxl,e1,e4];simp[Y4,J5,hu]
   have An1:∀x∈Nf l (i::r) u',x.size=sz:=by
    intro x hx;simp only[Nf,hy]at hx;rcases List.mem_or_eq_of_mem_set hx with hx|hx
    ·exact Bk x hx
    ·subst hx;rw[I.A0k r h1 hu];exact Bk y (List.mem_of_getElem? hy)
   have hlen:(Nf l (i::r) u').length=l.length:=by simp[Nf,hy]
   have Bod:(c1++d1++E5++(d2++c2++post)).toArray.size=bl.size:=by
    have:bl.size=bl.toList.length:=by simp
    rw[this,hbl,e1,e4];simp[Y4,J5,hu]
   refine⟨c1++(d1++E5++d2)++c2,⟨by rw[hlen];exact Ly,.inr ⟨b,cap,_,by rw[hlen];exact hc,Nat.zero_le _,hg.set Bod,by rw[hlen];exact hn,hm,?_,?_⟩⟩,?_,An1,?_⟩
   ·have:bl.size=bl.toList.length:=by simp
    rw[←hs,this,hbl,e1,e4];simp[Y4,J5,hu]
   ·rw[hlen,show(c1++d1++E5++(d2++c2++post)).toArray.toList=(c1++(d1++E5++d2)++c2)++post by simp, ←Ly]
    exact List.take_left
   ·simpa only[Nf,hy]using Dw
   ·intro b' Br;rw[hc]at Br;simp only[Value.ownBlock,Option.some.injEq]at Br;subst Br;exact hb
theorem M8.far{Bg:Nat × Nat}{f:F}{cs:List Value}{b:Nat}(h:M8 G σ w Bg f cs)(hb:σ b≠some Bg)(row:Array Value):M8 G σ (w.setRow b row) Bg f cs:=
 h.tr (Mem.le.refl G) fun b' Br=>⟨Br,setRow_other w b b' row (by rintro rfl;exact hb Br)⟩
theorem Dz.far{s j:Nat}{fs:List F}{cs:List Value}{b:Nat}(h:Dz G σ w s j fs cs)(hb:∀k,j<k→σ b≠some (s,k))(row:Array Value):Dz G σ (w.setRow b row) s j fs cs:=
 Dz.tr (Mem.le.refl G) h fun b' k hj Br=>⟨Br,setRow_other w b b' row (by rintro rfl;exact hb k hj Br)⟩
theorem Y2{s k off b:Nat}{sv:SV}{r:List Nat}{u:I}{c:Value}(Bu:Dt G σ Fr w0 w)(ho:B4 G σ w s sv c)(hh:sv.hit k r=some (off,.item u))(hb:σ b=some (s,k)):
 ∃bl ty fz pre cs post,w.heap[b]?=some (.cells bl ty fz)∧(fz=(0,0)∨bl.size≤fz.1)∧bl.toList=pre++cs++post∧pre.length=off∧A1 G u cs∧
  ∀u' E5,u'.size=u.size→A1 G u' E5→B4 G σ (w.setRow b (pre++E5++post).toArray) s (sv.putAt k r u') c:=by
 cases k with
 |zero=>
  simp only[SV.hit]at hh;cases sv with
  |vec e sz l=>
   obtain⟨u',hu,bl,pre,cs,post,h1,h2,h3,h4,h5⟩:=Abg ho Bu hb hh;cases hu;obtain⟨ty,fz,h1,h1',_⟩:=h1;exact⟨bl,ty,fz,pre,cs,post,h1,h1',h2,h3,h4,h5⟩
  |box t=>
   obtain⟨b',cells,ty,h1,h2,h3,h4⟩:=ho;obtain rfl:=Bu.inj b b' _ hb h2;cases t with
   |one f=>
    cases f with
    |i x=>
     obtain⟨p,v,h5,rfl,h6⟩:=V0 hh;cases h6;obtain⟨c1,cc,c2,e1,e2,e3,Fe⟩:=A1.put r h4 h5;refine⟨cells,ty,(0,0),c1,cc,c2,h3,.inl rfl,e1,by simpa using e2,e3,?_⟩
     intro u' E5 hu Gg;refine⟨b,_,ty,h1,h2,setRow_heap w b cells _ ty (0,0) h3,?_⟩;exact Fe u' E5 hu Gg
    |vec e sz l=>cases r<;>simp at hh
   |st fs=>
    cases r with
    |nil=>
     simp only at hh;split at hh
     ·rename_i l hl;cases hh;refine⟨cells,ty,(0,0),[],cells.toList,[],h3,.inl rfl,by simp,rfl,Dz.allI h4 hl,?_⟩
      intro u' E5 _ Gg;refine⟨b,_,ty,h1,h2,setRow_heap w b cells _ ty (0,0) h3,?_⟩;show A1 _ _ _;simpa[SV.putAt]using Gg
     ·cases hh
    |cons j r=>
     simp only at hh;split at hh
     ·rename_i y hy;obtain⟨p,v,h5,rfl,h6⟩:=V0 hh;cases h6;obtain⟨c1,cc,c2,e1,e2,e3,Cs⟩:=Dz.nth h4 hy;obtain⟨d1,d,d2,e4,e5,e6,Fe⟩:=A1.put r e3 h5;refine⟨cells,ty,(0,0),c1++d1,d,d2++c2,h3,.inl rfl,by simp[e1,e4],by simp[e2,e5],e6,?_⟩
      intro u' E5 hu Gg;simp only[SV.putAt,hy];refine⟨b,_,ty,h1,h2,setRow_heap w b cells _ ty (0,0) h3,?_⟩;have:=Cs (.i (y.put r u')) _ (Fe u' E5 hu Gg);have:=Dz.far (b:=b) this (fun k hk e=>by rw[h2]at e;cases e;omega) (c1++d1++E5++(d2++c2)).toArray
      show Dz _ _ _ _ _ _ _;simpa using this
     ·split at hh<;>cases hh
     ·cases hh
  |_=>cases hh
 |succ j=>
  simp only[SV.hit]at hh;cases sv with
  |box t=>
   obtain⟨b',cells,ty,h1,h2,h3,h4⟩:=ho;have hbb:b'≠b:=by rintro rfl;rw[h2]at hb;cases hb
   cases t with
   |one f=>
    cases f with
    |i x=>simp[SV.Cx]at hh
    |vec e sz l=>
     obtain⟨c',hc',h4⟩:=h4;by_cases hj:j=0
     ·subst hj;simp only[SV.Cx]at hh;obtain⟨u',hu,bl,pre,cs,post,g1,g2,g3,g4,g5⟩:=Abg h4 Bu hb hh;cases hu;obtain⟨ty1,fz1,g1,g1',Bn4⟩:=g1;refine⟨bl,ty1,fz1,pre,cs,post,g1,g1',g2,g3,g4,?_⟩;intro u' E5 hu Gg;refine⟨b',cells,ty,h1,h2,by rw[setRow_other w b b' _ hbb];exact h3,?_⟩
      exact⟨c',hc',g5 u' E5 hu Gg⟩
     ·have:(SV.box (.one (.vec e sz l))).Cx (j+1)=none:=by
       unfold SV.Cx;split<;>simp_all
      simp[this]at hh
   |st fs=>
    simp only[SV.Cx]at hh;cases hf:fs[j]? with
    |none=>simp[hf]at hh
    |some f=>
     cases f with
     |i x=>simp[hf]at hh
     |vec e sz l=>
      simp only[hf]at hh;obtain⟨c1,cc,c2,e1,e2,e3,Cs⟩:=Dz.nth h4 hf;rw[Nat.zero_add]at e3 Cs;obtain⟨c',hc',e3⟩:=e3;obtain⟨u',hu,bl,pre,cs,post,g1,g2,g3,g4,g5⟩:=Abg e3 Bu hb hh;cases hu;obtain⟨ty1,fz1,g1,g1',Bn4⟩:=g1;refine⟨bl,ty1,fz1,pre,cs,post,g1,g1',g2,g3,g4,?_⟩;intro u' E5 hu Gg;simp only[SV.putAt,hf];refine⟨b',cells,ty,h1,h2,by rw[setRow_other w b b' _ hbb];exact h3,?_⟩
      show Dz _ _ _ _ _ _ _;refine Dz.A7u (Mem.le.refl G) h4 hf (fun b'' k Aw Bds=>⟨Bds,setRow_other w b b'' _ ?_⟩) fun cc hcc=>?_
      ·rintro rfl;rw[hb]at Bds;cases Bds;omega
      ·rw[Nat.zero_add]at hcc ⊢;obtain⟨c'',Boe,hcc⟩:=hcc;obtain⟨u'',hu2,bl2,Bj0,cs2,A7i,k1,k2,k3,k4,k5⟩:=Abg hcc Bu hb hh;cases hu2;obtain⟨ty2,fz2,k1,_⟩:=k1;rw[g1]at k1;cases k1;refine⟨c'',Boe,?_⟩;have Pt:Bj0=pre∧cs2++A7i=cs++post:=by
        have:Bj0++(cs2++A7i)=pre++(cs++post):=by rw[←List.append_assoc, ←k2,g2,List.append_assoc]
        exact List.append_inj this (by rw[k3,g3])
       have Ap4:A7i=post:=(List.append_inj Pt.2 (by rw[A1.length _ _ k4,A1.length _ _ g4])).2
       have:=k5 u' E5 hu Gg;rwa [Pt.1,Ap4]at this
  |_=>simp[SV.Cx]at hh
end
end Go.Ab

