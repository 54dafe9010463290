/- Lemmas -/
import Derived.Test.YtkpojedpcabojaaGreatDoorAb17
import Derived.OrdersIn
import Derived.TacticsIn
import Derived.RangeFuncIn
import Derived.RangeFuncLeaves
import Derived.Sort.LoopGhostIn
set_option linter.unusedVariables false
set_option linter.unusedSimpArgs false
namespace Go.Ab
def As0(N:Nat):List Operand→List D6→Bool
 | [],[]=>true
 |x::xs,y::ys=>Jj N x y&&As0 N xs ys
 |_,_=>false
def Ts(G:Mem)(σ:Lab)(Fr:Mem)(w:World)(st:St)(vv:Nat→Value):SV→Value→Prop
 | .v x,c=>C7 G x c
 | .tup fs,c=>∃(us:List I) (cs:Array Value),fs=us.map F.i∧c= .tuple cs∧Aki G σ w 0 0 (us.map F.i) cs.toList
 | .pd s ver p,c=>Ait G σ w st vv 0 (.pd s ver p) c
 | .bd s ver p,c=>Ait G σ w st vv 0 (.bd s ver p) c
 | .kcl f s ver p,c=>∃g c0 ty,c= .func (.func f) #[] #[.pointer (some ⟨g,0,none⟩)]∧(G g=none∧Fr g=none∧σ g=none∧g<w.heap.size)∧w.heap[g]?=some (.cells #[c0] ty (0,0))∧∃cur,st[s]?=some cur∧ver≤cur.1∧∀inv d,cur.2= .own inv d→J7 ver inv p=true→HdD w d (vv s) p c0
 | .pdt s ver p b,c=>Ait G σ w st vv 0 (.pdt s ver p b) c
 | .Ati l,c=>match l with
   | [u,.it (.bool b)]=>∃c0,c= .tuple #[c0,.bool b]∧Awb G σ Fr w u c0
   |_=>False
 | .ocl f x s ver p,c=>∃g1 xs ty1,(G g1=none∧Fr g1=none∧σ g1=none∧g1<w.heap.size)∧w.heap[g1]?=some (.cells xs ty1 (0,0))∧D8 G x xs.toList∧∃g c0 ty,(c= .func (.func f) #[] #[.pointer (some ⟨g1,0,none⟩),.pointer (some ⟨g,0,none⟩)]∧g1≠g)∧(G g=none∧Fr g=none∧σ g=none∧g<w.heap.size)∧w.heap[g]?=some (.cells #[c0] ty (0,0))∧∃cur,st[s]?=some cur∧ver≤cur.1∧∀inv d,cur.2= .own inv d→p≠[]→alive ver inv p=true→PtD w d (vv s) p c0
 |_,_=>False
def A99(P:Program)(f:FuncId)(N:Nat)(az:List D6)(st:St)(K:SV→St→Prop):Prop:=
 ∀(G:Mem) (σ:Lab) (Fr:Mem) (w0:Base) (a:Act) (w:World) (xs:List Operand),w0.n=N→Rel G σ Fr w0 st a w→As0 N xs az=true→
  Calls P f (xs.map a.eval).toArray w fun e w'=>∃r c G' σ' st',e= .returned c∧K r st'∧G.le G'∧Rel G' σ' Fr w0 st' a w'∧Ts G' σ' Fr w' st' (val a w0) r c
structure Aqw(P:Program)(f:FuncId)(N:Nat)(az:List D6)(st:St)(K:SV→St→Prop):Prop where
 out:A99 P f N az st K
theorem Aqw.mono{P:Program}{f:FuncId}{N:Nat}{az:List D6}{st:St}{K K':SV→St→Prop}(h:Aqw P f N az st K)(hk:∀r st,K r st→K' r st):Aqw P f N az st K':=
 ⟨fun G σ Fr w0 a w xs h1 h2 h3=>(h.out G σ Fr w0 a w xs h1 h2 h3).mono fun _ _ ⟨r,c,G',σ',st',e,k,x⟩=>⟨r,c,G',σ',st',e,hk _ _ k,x⟩⟩
def Rc(d:Option Nat)(r:SV):M:=match r with
 | .v x=>Bcd d (.v x)
 | .tup fs=>Bcd d (.tup fs)
 | .pd s ver p=>.Hh (d≠some s) fun _=>Ab.Gj d (.pd s ver p) .done
 | .bd s ver p=>.Hh (d≠some s) fun _=>Ab.Gj d (.bd s ver p) .done
 | .pdt s ver p b=>.Hh (d≠some s) fun _=>Ab.Gj d (.pdt s ver p b) .done
 | .Ati l=>match d with
   |some d=>Jz d (.Ati l)
   |none=>.done
 | .kcl f s ver p=>match d with
   |some d=>.Hh (d≠s) fun _=>Jz d (.kcl f s ver p)
   |none=>.done
 | .ocl f x s ver p=>match d with
   |some d=>.Hh (d≠s) fun _=>Jz d (.ocl f x s ver p)
   |none=>.done
 |_=>.fail
section
variable{P:Program}{N:Nat}{G:Mem}{σ:Lab}{Fr:Mem}{w0:Base}{w:World}{st:St}{a:Act}
theorem S5{σ':Lab}{w':World}{s:Nat}:∀(l:List I) (j j':Nat) (cs:List Value),Aki G σ w 0 j (l.map F.i) cs→Aki G σ' w' s j' (l.map F.i) cs
 | [],_,_,_,h=>h
 |_::l,_,_,_,⟨c,d,e,h1,h2⟩=>⟨c,d,e,h1,S5 l _ _ _ h2⟩
theorem Xn{Q:St→Prop}{d:Option Nat}{r:SV}{c:Value}(h:Rel G σ Fr w0 st a w)(hb:∀d',d=some d'→d'<w0.n)(hc:Ts G σ Fr w st (val a w0) r c)(hq:(Rc d r).wp P Q st):
 ∃σ' st',Rel G σ' Fr w0 st' (a.put d c) w∧Q st':=by
 cases r with
 |v x=>
  cases d with
  |none=>exact⟨σ,st,h,hq⟩
  |some d=>exact h.Ax2 (hb d rfl) hc hq
 |tup fs=>
  obtain⟨us,cs,rfl,rfl,h1⟩:=hc;cases d with
  |none=>exact⟨σ,st,h,hq⟩
  |some d=>exact h.Gj (sv:=.tup (us.map F.i)) hb (fun d' _ ver _=>⟨cs,rfl,S5 us _ _ _ h1⟩) (M1 hq)
 |pd s ver p=>
  obtain⟨Cf,hq⟩:=hq;obtain⟨cur,g1,g2,g3⟩:=hc;refine h.Gj (sv:=.pd s ver p) hb (fun d' hd' v _=>⟨cur,?_,g2,fun inv t e hp ha=>?_⟩) hq
  ·rw[B3 (fun e=>Cf (by rw[hd',e]))];exact g1
  ·rw[Jr (fun e=>Cf (by rw[hd',e]))];exact g3 inv t e hp ha
 |bd s ver p=>
  obtain⟨Cf,hq⟩:=hq;obtain⟨cur,g1,g2,g3⟩:=hc;refine h.Gj (sv:=.bd s ver p) hb (fun d' hd' v _=>⟨cur,?_,g2,fun inv t e ha=>?_⟩) hq
  ·rw[B3 (fun e=>Cf (by rw[hd',e]))];exact g1
  ·rw[Jr (fun e=>Cf (by rw[hd',e]))];exact g3 inv t e ha
 |pdt s ver p b=>
  obtain⟨Cf,hq⟩:=hq;obtain⟨c0,hc0,cur,g1,g2,g3⟩:=hc;refine h.Gj (sv:=.pdt s ver p b) hb (fun d' hd' v _=>⟨c0,hc0,cur,?_,g2,fun inv t e hp ha=>?_⟩) hq
  ·rw[B3 (fun e=>Cf (by rw[hd',e]))];exact g1
  ·rw[Jr (fun e=>Cf (by rw[hd',e]))];exact g3 inv t e hp ha
 |Ati l=>
  cases d with
  |none=>exact⟨σ,st,h,hq⟩
  |some d=>
   simp only[Ts]at hc;split at hc
   case h_2=>exact hc.elim
   rename_i u b;obtain⟨c0,rfl,bs,g1,g2,g3,g4⟩:=hc;simp only[Rc,Jz,M.wp]at hq;cases hd:st[d]? with
   |none=>simp[hd]at hq
   |some cur=>
    simp only[hd]at hq;have hK:∀b k,σ.drop d b=some (d,k)→k<0:=fun b k hb=>absurd rfl (Lab.Ade.1 hb).1
    have H2:WOk G ((σ.drop d).Anp d 0 bs) Fr w0 w:=(h.Fc.drop d).Anp hK fun b hb=>⟨(g4 b hb).1,(g4 b hb).2.1,(g4 b hb).2.2.2⟩
    refine⟨_,_,h.put (hb d rfl) H2 (Mem.le.refl G) hd (Ej _) ?_ ?_ (fun h e=>by cases e) (by intro _ _ e;cases e),hq⟩
    ·intro s' hs' b k hb;refine⟨?_,rfl⟩;rw[Lab.Asn]
     ·exact Lab.Ade.2 ⟨hs',hb⟩
     ·intro hm;rw[(g4 b hm).2.2.1]at hb;cases hb
    ·refine⟨_,bs,rfl,?_,g3,fun b hb=>⟨_,Lab.Asm hb⟩⟩
     simp only[Aiz];exact⟨c0,_,bs,[],rfl,by simp,g2,g1,_,_,[],[],rfl,rfl,rfl,by simp[Fe,D8,Value.cells],rfl,rfl⟩
 |kcl f s ver p=>
  cases d with
  |none=>exact⟨σ,st,h,hq⟩
  |some d=>
   obtain⟨Cf,hq⟩:=hq;obtain⟨g,c0,ty,hc0,⟨k1,k2,k3,k4⟩,hg2,cur,g1,g2,g3⟩:=hc;simp only[Jz,M.wp]at hq;cases hd:st[d]? with
   |none=>simp[hd]at hq
   |some old=>
    simp only[hd]at hq;have hK:∀b k,σ.drop d b=some (d,k)→k<0:=fun b k hb=>absurd rfl (Lab.Ade.1 hb).1
    have H2:WOk G ((σ.drop d).Anp d 0 [g]) Fr w0 w:=(h.Fc.drop d).Anp hK fun b hb=>by
     simp only[Jd]at hb;subst hb;exact⟨k1,k2,k4⟩
    refine⟨_,_,h.put (hb d rfl) H2 (Mem.le.refl G) hd (Ej _) ?_ ?_ (fun h e=>by cases e) (by intro _ _ e;cases e),hq⟩
    ·intro s' hs' b k hb;refine⟨?_,rfl⟩;rw[Lab.Asn]
     ·exact Lab.Ade.2 ⟨hs',hb⟩
     ·intro hm;simp only[Jd]at hm;rw[hm,k3]at hb;cases hb
    ·refine⟨g,c0,ty,_,hc0,Lab.Asm (by simp),hg2,cur,by rw[B3 Cf];exact g1,g2,fun inv t e ha=>?_⟩
     rw[Jr (Ne.symm Cf)];exact g3 inv t e ha
 |ocl f x s ver p=>
  cases d with
  |none=>exact⟨σ,st,h,hq⟩
  |some d=>
   obtain⟨Cf,hq⟩:=hq;obtain⟨g',xs,ty1,⟨j1,j2,j3,j4⟩,hb2,hb3,g,c0,ty,⟨hc0,hgg⟩,⟨k1,k2,k3,k4⟩,hg2,cur,g1,g2,g3⟩:=hc;simp only[Jz,M.wp]at hq;cases hd:st[d]? with
   |none=>simp[hd]at hq
   |some old=>
    simp only[hd]at hq;have hK:∀b k,σ.drop d b=some (d,k)→k<0:=fun b k hb=>absurd rfl (Lab.Ade.1 hb).1
    have H2:WOk G ((σ.drop d).Anp d 0 [g',g]) Fr w0 w:=(h.Fc.drop d).Anp hK fun b hb=>by
     simp only[Bg,Dg,or_false]at hb;rcases hb with rfl|rfl
     ·exact⟨j1,j2,j4⟩
     ·exact⟨k1,k2,k4⟩
    refine⟨_,_,h.put (hb d rfl) H2 (Mem.le.refl G) hd (Ej _) ?_ ?_ (fun h e=>by cases e) (by intro _ _ e;cases e),hq⟩
    ·intro s' hs' b k hb;refine⟨?_,rfl⟩;rw[Lab.Asn]
     ·exact Lab.Ade.2 ⟨hs',hb⟩
     ·intro hm;simp only[Bg,Dg,or_false]at hm;rcases hm with hm|hm
      ·rw[hm,j3]at hb;cases hb
      ·rw[hm,k3]at hb;cases hb
    ·refine⟨g',xs,ty1,_,Lab.Asm (by simp),hb2,hb3,g,c0,ty,_,⟨hc0,hgg⟩,Lab.Asm (by simp),hg2,cur,by rw[B3 Cf];exact g1,g2,fun inv t e hp ha=>?_⟩
     rw[Jr (Ne.symm Cf)];exact g3 inv t e hp ha
 |_=>exact hc.elim
theorem Afz{o:Oper}{f:FuncId}{args:Array Operand}{ts:Array TypeId}{az:List D6}{Q:St→Prop}{next:Act→World→Prop}{E:Exit→Act→World→Prop}(ho:o.op= .call {callee:=.value (.func f),args,argTypes:=ts})(hf:Ko P f=true)
 (ha:As0 w0.n args.toList az=true) (hr:Rel G σ Fr w0 st a w) (hw:Aqw P f w0.n az st fun r st'=>(Rc o.dst r).wp P Q st')
 (hn:∀G' σ' st' a' w',G.le G'→Rel G' σ' Fr w0 st' a' w'→Q st'→next a' w') (C2:∀d,o.dst=some d→d<w0.n):o.wp P a w next E:=by
 have hc:=hw.out G σ Fr w0 a w args.toList rfl hr ha;unfold Oper.wp;rw[U1 ho hf,Oper.upon_enter];have he:(args.toList.map a.eval).toArray=args.map a.eval:=by
  apply Array.ext';simp only[Array.toList_map]
 rw[he]at hc;refine hc.mono ?_;rintro e w' ⟨r,c,G',σ',st',rfl,hk,hG,Hm,Aw7⟩;obtain⟨σ2,st2,h1,h2⟩:=Xn Hm C2 Aw7 hk;exact hn G' σ2 st2 _ w' hG h1 h2
def clB(st:St)(x:Nat)(f:FuncId)(cs:List Nat):Bool:=match st[x]? with
 |some (_,.cl f' fs refs)=>f'==f&&fs.isEmpty&&decide (refs.map (·.1)=cs)&&refs.all fun e=>match st[e.1]? with
  |some cur=>Nat.beq cur.1 e.2
  |none=>false
 |_=>false
theorem V4{vv:Nat→Value}:∀{refs:List (Nat × Nat)} {cs:List Value},Anm st vv refs cs→(refs.all fun e=>match st[e.1]? with
 |some cur=>Nat.beq cur.1 e.2
 |none=>false)=true→cs=refs.map fun e=>vv e.1
 | [],[],_,_=>rfl
 |(h,v)::r,c::cs,⟨⟨cur,h1,h2,h3⟩,h4⟩,ha=>by
  simp only[List.all_cons,Ap,h1]at ha;have hv:v=cur.1:=(Nat.eq_of_beq_eq_true ha.1).symm;rw[h3 hv,V4 h4 ha.2];rfl
 | [],_::_,h,_=>h.elim
 |_::_,[],h,_=>by cases h
theorem Tg{N:Nat}:∀{xs:List Operand} {az:List D6} {cs:List Nat},As0 N xs az=true→(cs.all fun c=>decide (c<N))=true→As0 N (xs++cs.map Operand.tmp) (az++cs.map D6.t)=true
 | [],[],[],_,_=>rfl
 | [],[],c::cs,h,hc=>by
   simp only[List.all_cons,Ap,decide_eq_true_eq]at hc;have ih:=Tg (N:=N) (xs:=[]) (az:=[]) (cs:=cs) rfl hc.2;simp only[H4,Cy,As0,Ap]at ih ⊢;exact⟨by simp[Jj,hc.1],ih⟩
 |x::xs,y::ys,cs,h,hc=>by
  simp only[As0,Ap]at h;simp only[H3,As0,Ap];exact⟨h.1,Tg h.2 hc⟩
 | [],_::_,_,h,_=>by cases h
 |_::_,[],_,h,_=>by cases h
theorem Afw{o:Oper}{x:Nat}{f:FuncId}{args:Array Operand}{ts:Array TypeId}{cs:List Nat}{az:List D6}{Q:St→Prop}{next:Act→World→Prop}{E:Exit→Act→World→Prop}(ho:o.op= .call {callee:=.value (.tmp x),args,argTypes:=ts})(hx:x<w0.n)(hf:Ko P f=true)
 (hcs:(cs.all fun c=>decide (c<w0.n))=true) (ha:As0 w0.n args.toList az=true) (hr:Rel G σ Fr w0 st a w) (hcl:clB st x f cs=true) (hw:Aqw P f w0.n (az++cs.map D6.t) st fun r st'=>(Rc o.dst r).wp P Q st')
 (hn:∀G' σ' st' a' w',G.le G'→Rel G' σ' Fr w0 st' a' w'→Q st'→next a' w') (C2:∀d,o.dst=some d→d<w0.n):o.wp P a w next E:=by
 unfold clB at hcl;split at hcl
 case h_2=>cases hcl
 rename_i ver f' fs refs hs;simp only[Ap,beq_iff_eq,List.isEmpty_iff,decide_eq_true_eq]at hcl;obtain⟨⟨⟨rfl,rfl⟩,rfl⟩,Anw⟩:=hcl;obtain⟨us,ws,hc,hus,hws⟩:=(show Ay0 st (val a w0) f' [] refs (a.eval (.tmp x))from hr.slot hx hs);have hu0:us=[]:=by cases us with|nil=>rfl|cons _ _=>exact hus.elim
 subst hu0;have hwe:=V4 hws Anw;have hc2:=hw.out G σ Fr w0 a w (args.toList++(refs.map (·.1)).map Operand.tmp) rfl hr (Tg ha hcs);unfold Oper.wp;rw[Abb ho hc hf,Oper.upon_enter];have he:((args.toList++(refs.map (·.1)).map Operand.tmp).map a.eval).toArray=args.map a.eval++ws.toArray:=by
  apply Array.ext';simp only[F5,Array.toList_append,Array.toList_map]
  congr 1
  rw[hwe];simp only[List.map_map];refine List.map_congr_left fun e he'=>?_
  have Ze:e.1<w0.n:=by
   have:=Aia.1 hcs e.1 (X4.2 ⟨e,he',rfl⟩);simpa using this
  simp only[Function.comp];exact(J2 (by rw[hr.n];exact Ze)).symm
 rw[he]at hc2;refine hc2.mono ?_;rintro e w' ⟨r,c,G',σ',st',rfl,hk,hG,Hm,Aw7⟩;obtain⟨σ2,st2,h1,h2⟩:=Xn Hm C2 Aw7 hk;exact hn G' σ2 st2 _ w' hG h1 h2
end

def Wd(ro:Option Nat):Fence:={Fence.wide with round:=ro}
section
variable{P:Program}{ro:Option Nat}{n:Nat}
theorem Afn(m:Machine):m.fenced P (Wd ro):=fenced_wide P m
theorem R7{f:FuncId}{args:Array Value}{w:World}{R:Ending→World→Prop}:CallsIn (Wd ro) n P f args w R↔Calls P f args w R:=callsIn_wide (n:=n)
theorem Af3{row:String}{args:Array Value}{w:World}{R:Value→World→Prop}(h:Rows P row args w R):RowsIn (Wd ro) n P row args w R:=
 fun c cs _=>let⟨v,w',r,s⟩:=h c cs;⟨v,w',r,(StepsIn.of_steps s).mono fun m _=>Afn m⟩
theorem S9{o:Oper}{a:Act}{w:World}{next:Act→World→Prop}{E:Exit→Act→World→Prop}(hd:∀c,o.op≠ .defer c)(h:o.wp P a w next E):o.wpIn (Wd ro) n P a w next E:=by
 refine⟨fun _ _=>trivial,?_⟩
 rw[Oper.semAt_eq _ _ _ hd];unfold Oper.wp at h;cases hr:(execOp a.eval o).run P w with
 |ok x w'=>
  rw[hr]at h;cases x<;>simp only[Oper.upon]at h<;>simp only[Oper.uponIn]<;>first
   |exact h
   |exact⟨fun k=>absurd k (by simp[Wd,Fence.wide]),R7.2 h⟩
   |exact⟨fun k=>absurd k (by simp[Wd,Fence.wide]),Af3 h⟩
   |exact h.elim
 |halt x w'=>
  rw[hr]at h;cases x<;>simp only[Oper.upon]at h<;>simp only[Oper.uponIn]<;>first|exact h|exact h.elim
end

inductive Ao where
 |op (g:Option (Nat × Bool)) (i:IOp)
 |call (g:Option (Nat × Bool)) (d:Option Nat) (f:FuncId) (az:List (Bool × D6))
 |A45 (g:Option (Nat × Bool)) (d:Option Nat) (f:FuncId) (az:List (Bool × D6))
 |dyn (g:Option (Nat × Bool)) (d:Option Nat) (fs:List FuncId) (x:D6) (az:List (Bool × D6))
 |inl (g:Option (Nat × Bool)) (d:Option Nat) (N:Nat) (f:FuncId) (az:List D6)
 |inc (g:Option (Nat × Bool)) (d:Option Nat) (N x:Nat) (f:FuncId) (cs:List Nat) (az:List D6)
 |yld (g:Option (Nat × Bool)) (d:Option Nat) (y:Nat) (az:List D6)
 |inv (g:Option (Nat × Bool)) (d:Option Nat) (tab:List (TypeId × FuncId)) (name:String) (x:D6)
 deriving Inhabited
abbrev Hd:=Nat→Option Nat→List D6→(St→Prop)→St→Prop
def noY:Hd:=fun _ _ _ _ _=>False
def guarded(g:Option (Nat × Bool))(d:Option Nat)(m:M):M:=match g with
 |none=>m
 |some (t,want)=>.get t fun _ sv=>match sv with
  | .v (.bool b)=>match want with
    |true=>.ite b m (Gj d (.tup []) .done)
    |false=>.ite b (Gj d (.tup []) .done) m
  | .tup []=>Gj d (.tup []) .done
  |_=>.fail
def IOp.dst:IOp→Option Nat
 | .mv d _| .asg d _| .mov d _ _ _| .bin d _ _ _| .not d _| .pick d _ _ _| .load d _ _ _| .alloc d _| .box d _| .A21 d _ _ _| .A7p d _ _ _| .len d _ _| .slc d _ _ _ _ _| .b2s d _| .build d _ _
 | .mkI d _ _| .A7t d| .Bbz d _ _ _ _| .Be3 d _| .Ami d _| .Aru d _| .Bfb d _| .A94 d _| .Bff d _ _ _| .A6n d _ _| .bsl d _ _ _ _ _| .Bag d _ _ _ _ _| .A0g d _ _| .A6b d _| .A0e d _| .A93 d _ _ _| .A92 d _ _ _| .bits d _ _ _| .conv d _ _| .empty d _ _| .ext d _ _| .app d _ _ _ _ _| .eqs d _ _ _ _| .A7s d _ _| .Ayz d _ _=>some d
 | .store _ _ _=>none
 | .Bb0 _ _ _=>none
 | .dead d=>d
def Ao.sem:Ao→M
 | .op g i=>guarded g i.dst i.sem
 | .call g d f az=>guarded g d (V9 d f az)
 | .A45 g d f az=>guarded g d (Uk d f az)
 | .dyn g d fs x az=>guarded g d (V6 d fs x az)
 | .inv g d tab _ x=>guarded g d (V7 d tab x)
 | .inl _ _ _ _ _=>.fail
 | .inc _ _ _ _ _ _ _=>.fail
 | .yld _ _ _ _=>.fail
def X5(y:Nat)(K:Nat→St→Prop)(st:St):Prop:=match st[y]? with
 |some (_,.al s v)=>match st[s]? with
  |some cur=>v=cur.1∧K s st
  |none=>False
 |_=>K y st
def Ao.run(P:Program)(Y:Hd):Ao→(St→Prop)→St→Prop
 | .op g i,Q,st=>(guarded g i.dst i.sem).wp P Q st
 | .call g d f az,Q,st=>(guarded g d (V9 d f az)).wp P Q st
 | .A45 g d f az,Q,st=>(guarded g d (Uk d f az)).wp P Q st
 | .dyn g d fs x az,Q,st=>(guarded g d (V6 d fs x az)).wp P Q st
 | .inv g d tab _ x,Q,st=>(guarded g d (V7 d tab x)).wp P Q st
 | .inl g d N f az,Q,st=>(guarded g d (.chk fun st=>Aqw P f N az st fun r st'=>(Rc d r).wp P Q st')).wp P Q st
 | .inc g d N x f cs az,Q,st=>(guarded g d (.chk fun st=>clB st x f cs=true∧Aqw P f N (az++cs.map D6.t) st fun r st'=>(Rc d r).wp P Q st')).wp P Q st
 | .yld g d y az,Q,st=>(guarded g d (.chk (X5 y fun y'=>Y y' d az Q))).wp P Q st
theorem Ao.Bhf{P:Program}{Y:Hd}{i:Ao}{Q:St→Prop}{st:St}(h:i.sem.wp P Q st):i.run P Y Q st:=by
 cases i with
 |inl=>exact h.elim
 |inc=>exact h.elim
 |yld=>exact h.elim
 |_=>exact h
def gOk(N:Nat)(ops:Array Oper):Option (Nat × Bool)→Option (Nat × Bool)→Bool
 |none,none=>true
 |some (j,b),some (t,b')=>b==b'&&Jy ((ops[j]?).bind (·.dst)) t&&t<N
 |_,_=>false
def dOk(N:Nat)(d:Option Nat):Bool:=match d with
 |none=>true
 |some d=>d<N
def M7(P:Program)(N:Nat)(ops:Array Oper)(o:Oper):Ao→Bool
 | .op g i=>gOk N ops o.guard g&&dOk N o.dst&&decide (o.dst=i.dst)&&chk P N o i
 | .call g d f az=>gOk N ops o.guard g&&dOk N o.dst&&decide (o.dst=d)&&match o.op with
   | .call {callee:=.value (.func f'),args,.. }=>f'==f&&Ko P f&&Ke N args.toList az
   |_=>false
 | .A45 g d f az=>gOk N ops o.guard g&&dOk N o.dst&&decide (o.dst=d)&&match o.op with
   | .call {callee:=.value (.func f'),args,.. }=>f'==f&&Ko P f&&Ke N args.toList az
   |_=>false
 | .dyn g d fs x az=>gOk N ops o.guard g&&dOk N o.dst&&decide (o.dst=d)&&match o.op with
   | .call {callee:=.value x',args,.. }=>Jj N x' x&&fs.all (Ko P)&&Ke N args.toList az
   |_=>false
 | .inv g d tab name x=>gOk N ops o.guard g&&dOk N o.dst&&decide (o.dst=d)&&match o.op with
   | .call {callee:=.invoke x' Bqj,args,.. }=>Jj N x' x&&Bqj==name&&args.isEmpty&&tab.all (Vv P name)
   |_=>false
 | .inl g d N' f az=>gOk N ops o.guard g&&dOk N o.dst&&decide (o.dst=d)&&N'==N&&match o.op with
   | .call {callee:=.value (.func f'),args,.. }=>f'==f&&Ko P f&&As0 N args.toList az
   |_=>false
 | .inc g d N' x f cs az=>gOk N ops o.guard g&&dOk N o.dst&&decide (o.dst=d)&&N'==N&&match o.op with
   | .call {callee:=.value (.tmp x'),args,.. }=>x'==x&&decide (x<N)&&Ko P f&&(cs.all fun c=>decide (c<N))&&As0 N args.toList az
   |_=>false
 | .yld g d y az=>gOk N ops o.guard g&&dOk N o.dst&&decide (o.dst=d)&&match o.op with
   | .call {callee:=.value (.tmp y'),args,.. }=>y'==y&&decide (y<N)&&As0 N args.toList az
   |_=>false
def Aze(P:Program)(N:Nat)(ops:Array Oper):List Oper→List Ao→Bool
 | [],[]=>true
 |o::l,i::m=>M7 P N ops o i&&Aze P N ops l m
 |_,_=>false
def X9(P:Program)(Y:Hd):List Ao→(St→Prop)→St→Prop
 | [],Q,st=>Q st
 |i::l,Q,st=>i.run P Y (X9 P Y l Q) st
theorem Aad{P:Program}{N:Nat}{o:Oper}{i:IOp}{Q:St→Prop}{st:St}(h:chk P N o i=true)(hq:i.sem.wp P Q st)(c:Call):o.op≠ .defer c:=by
 intro e;unfold chk at h;rw[e]at h;cases i<;>first|exact(show False from hq).elim|(cases h;done)
def Auy(P:Program)(Y:Hd)(Fr:Mem)(w0:Base):Prop:=
 ∀{ro:Option Nat} {o:Oper} {y y':Nat} {args:Array Operand} {ts:Array TypeId} {az:List D6} {G:Mem} {σ:Lab} {Fr':Mem} {st:St} {a:Act} {w:World} {Q:St→Prop} {next:Act→World→Prop} {E:Exit→Act→World→Prop},
  o.op= .call {callee:=.value (.tmp y'),args,argTypes:=ts}→a.eval (.tmp y')=val a w0 y→As0 w0.n args.toList az=true→Fr.le Fr'→Rel G σ Fr' w0 st a w→Y y o.dst az Q st→
  (∀G' σ' st' a' w',G.le G'→Rel G' σ' Fr' w0 st' a' w'→Q st'→next a' w')→(∀d,o.dst=some d→d<w0.n)→o.wpIn (Wd ro) 0 P a w next E
theorem Nt{P:Program}{Fr:Mem}{w0:Base}:Auy P noY Fr w0:=fun _ _ _ _ _ h=>h.elim
theorem Auy.le{P:Program}{Y:Hd}{Fr Fr':Mem}{w0:Base}(h:Auy P Y Fr w0)(hle:Fr.le Fr'):Auy P Y Fr' w0:=fun h1 h2 h3 h4=>h h1 h2 h3 (hle.trans h4)
section
variable{P:Program}{N:Nat}{G:Mem}{σ:Lab}{Fr:Mem}{w0:Base}{w:World}{st:St}{a:Act}
theorem Nz{ops:Array Oper}{o:Oper}{g:Option (Nat × Bool)}{m:M}{Q:St→Prop}{next:Act→World→Prop}(hr:Rel G σ Fr w0 st a w)(hg:gOk w0.n ops o.guard g=true)(hd:dOk w0.n o.dst=true)
 (hq:(guarded g o.dst m).wp P Q st) (hn:∀G' σ' st' a' w',G.le G'→Rel G' σ' Fr w0 st' a' w'→Q st'→next a' w'):
 (Region.wanted o (yielded ops a.tmps)=true∧m.wp P Q st)∨(Region.wanted o (yielded ops a.tmps)=false∧next (a.put o.dst undef) w):=by
 unfold gOk at hg;split at hg
 ·rename_i hog;exact .inl ⟨by simp[Region.wanted,hog],hq⟩
 ·rename_i j b t b' hog;simp only[Ap,beq_iff_eq,decide_eq_true_eq]at hg;obtain⟨⟨rfl,h1⟩,h2⟩:=hg;have h1:=Jp h1;simp only[guarded,M.wp]at hq;cases hs:st[t]? with
  |none=>simp[hs]at hq
  |some cur=>
   simp only[hs]at hq;have skip:(Gj o.dst (.tup []) .done).wp P Q st→next (a.put o.dst undef) w:=by
    intro hq;obtain⟨σ',st',r1,r2⟩:=hr.Gj (sv:=.tup []) (c:=undef) (fun d' hd'=>by
     unfold dOk at hd;rw[hd']at hd;simpa using hd) (fun _ _ _ _=>⟨#[],rfl,rfl⟩) hq
    exact hn _ _ _ _ _ (Mem.le.refl G) r1 r2
   have ht:t<a.tmps.size:=by rw[hr.n];exact h2
   split at hq
   ·rename_i bb Au0;obtain⟨cv,csv⟩:=cur;simp only at Au0;subst Au0;have Dh:C7 G (.bool bb) (a.eval (.tmp t)):=hr.slot h2 hs;rw[C7.bool]at Dh;have hy:yielded ops a.tmps j=some bb:=by
     unfold yielded;rw[h1];have:a.tmps[t]?=some (.bool bb):=by
      rw[E6 ht];simp[Act.eval,E6 ht]at Dh;rw[Dh]
     simp[this]
    have hw:Region.wanted o (yielded ops a.tmps)=(bb==b):=by
     unfold Region.wanted;rw[hog];simp[hy]
    rw[hw];cases b<;>cases bb
    ·exact .inl ⟨rfl,hq.2 rfl⟩
    ·exact .inr ⟨rfl,skip (hq.1 rfl)⟩
    ·exact .inr ⟨rfl,skip (hq.2 rfl)⟩
    ·exact .inl ⟨rfl,hq.1 rfl⟩
   ·rename_i Au0;obtain⟨cv,csv⟩:=cur;simp only at Au0;subst Au0;obtain⟨ta,ht1,ht2⟩:=(show Ab1 G σ w t (.tup []) (a.eval (.tmp t))from hr.slot h2 hs);have ht2:ta.toList=[]:=ht2;have hta:ta= #[]:=by simpa using ht2
    have Dh:a.eval (.tmp t)=undef:=by rw[ht1,hta];rfl
    have hy:yielded ops a.tmps j=none:=by
     unfold yielded;rw[h1];have:a.tmps[t]?=some undef:=by
      rw[E6 ht];simp[Act.eval,E6 ht]at Dh;rw[Dh]
     simp[this,undef]
    have hw:Region.wanted o (yielded ops a.tmps)=false:=by
     unfold Region.wanted;rw[hog];simp[hy]
    exact .inr ⟨hw,skip hq⟩
   ·exact hq.elim
 ·cases hg
theorem Abc{Y:Hd}{ro:Option Nat}{ops:Array Oper}{o:Oper}{i:Ao}{Q:St→Prop}{next:Act→World→Prop}{E:Exit→Act→World→Prop}(hY:Auy P Y Fr w0)(h1:M7 P w0.n ops o i=true)(hr:Rel G σ Fr w0 st a w)(hq:i.run P Y Q st)
 (hn:∀G' σ' st' a' w',G.le G'→Rel G' σ' Fr w0 st' a' w'→Q st'→next a' w'):
 if Region.wanted o (yielded ops a.tmps)then o.wpIn (Wd ro) 0 P a w next E else next (a.put o.dst undef) w:=by
 have C2:dOk w0.n o.dst=true→∀d,o.dst=some d→d<w0.n:=by
  intro h d hd;unfold dOk at h;rw[hd]at h;simpa using h
 have fin:∀{g:Option (Nat × Bool)} {mm:M},gOk w0.n ops o.guard g=true→dOk w0.n o.dst=true→(guarded g o.dst mm).wp P Q st→(mm.wp P Q st→∀c,o.op≠ .defer c)→Sound P w0.n o mm→
  if Region.wanted o (yielded ops a.tmps)then o.wpIn (Wd ro) 0 P a w next E else next (a.put o.dst undef) w:=by
  intro g mm hg hd hq' hnd hs;rcases Nz hr hg hd hq' hn with⟨k1,k2⟩|⟨k1,k2⟩
  ·rw[if_pos k1];exact S9 (hnd k2) (hs G σ Fr w0 st a w _ _ _ rfl hr k2 hn (C2 hd))
  ·rw[if_neg (by rw[k1];decide)]
   exact k2
 cases i with
 |op g i=>
  simp only[M7,Ap,decide_eq_true_eq]at h1;obtain⟨⟨⟨h3,h4⟩,h5⟩,h6⟩:=h1;simp only[Ao.run]at hq;rw[←h5]at hq;exact fin h3 h4 hq (Aad h6) (Afe h6)
 |call g d f az=>
  simp only[M7,Ap,decide_eq_true_eq]at h1;obtain⟨⟨⟨h3,h4⟩,h5⟩,h6⟩:=h1;simp only[Ao.run]at hq;rw[←h5]at hq;split at h6
  ·rename_i ho;simp only[Ap,beq_iff_eq]at h6;obtain⟨⟨rfl,h7⟩,h8⟩:=h6;exact fin h3 h4 hq (by rw[ho];intro _ c e;cases e) (Agr ho h7 h8)
  ·cases h6
 |A45 g d f az=>
  simp only[M7,Ap,decide_eq_true_eq]at h1;obtain⟨⟨⟨h3,h4⟩,h5⟩,h6⟩:=h1;simp only[Ao.run]at hq;rw[←h5]at hq;split at h6
  ·rename_i ho;simp only[Ap,beq_iff_eq]at h6;obtain⟨⟨rfl,h7⟩,h8⟩:=h6;exact fin h3 h4 hq (by rw[ho];intro _ c e;cases e) (Aeq ho h7 h8)
  ·cases h6
 |dyn g d fs x az=>
  simp only[M7,Ap,decide_eq_true_eq]at h1;obtain⟨⟨⟨h3,h4⟩,h5⟩,h6⟩:=h1;simp only[Ao.run]at hq;rw[←h5]at hq;split at h6
  ·rename_i ho;simp only[Ap]at h6;obtain⟨⟨h7,h8⟩,h9⟩:=h6;exact fin h3 h4 hq (by rw[ho];intro _ c e;cases e) (Agi ho h7 h8 h9)
  ·cases h6
 |inv g d tab name x=>
  simp only[M7,Ap,decide_eq_true_eq]at h1;obtain⟨⟨⟨h3,h4⟩,h5⟩,h6⟩:=h1;simp only[Ao.run]at hq;rw[←h5]at hq;split at h6
  ·rename_i ho;simp only[Ap,beq_iff_eq]at h6;obtain⟨⟨⟨h7,rfl⟩,h9⟩,h8⟩:=h6;obtain rfl:=Array.isEmpty_iff.1 h9;exact fin h3 h4 hq (by rw[ho];intro _ c e;cases e) (Agm ho h7 h8)
  ·cases h6
 |inl g d N' f az=>
  simp only[M7,Ap,decide_eq_true_eq,beq_iff_eq]at h1;obtain⟨⟨⟨⟨h3,h4⟩,h5⟩,rfl⟩,h6⟩:=h1;simp only[Ao.run]at hq;rw[←h5]at hq;split at h6
  ·rename_i ho;simp only[Ap,beq_iff_eq]at h6;obtain⟨⟨rfl,h7⟩,h8⟩:=h6;rcases Nz hr h3 h4 hq hn with⟨k1,k2⟩|⟨k1,k2⟩
   ·rw[if_pos k1];exact S9 (by rw[ho];intro c e;cases e) (Afz ho h7 h8 hr k2 hn (C2 h4))
   ·rw[if_neg (by rw[k1];decide)]
    exact k2
  ·cases h6
 |inc g d N' x f cs az=>
  simp only[M7,Ap,decide_eq_true_eq,beq_iff_eq]at h1;obtain⟨⟨⟨⟨h3,h4⟩,h5⟩,rfl⟩,h6⟩:=h1;simp only[Ao.run]at hq;rw[←h5]at hq;split at h6
  ·rename_i ho;simp only[Ap,beq_iff_eq,decide_eq_true_eq]at h6;obtain⟨⟨⟨⟨rfl,h7⟩,h8⟩,h9⟩,h10⟩:=h6;rcases Nz hr h3 h4 hq hn with⟨k1,k2⟩|⟨k1,k2⟩
   ·rw[if_pos k1];exact S9 (by rw[ho];intro c e;cases e) (Afw ho h7 h8 h9 h10 hr k2.1 k2.2 hn (C2 h4))
   ·rw[if_neg (by rw[k1];decide)]
    exact k2
  ·cases h6
 |yld g d y az=>
  simp only[M7,Ap,decide_eq_true_eq]at h1;obtain⟨⟨⟨h3,h4⟩,h5⟩,h6⟩:=h1;simp only[Ao.run]at hq;rw[←h5]at hq;split at h6
  ·rename_i ho;simp only[Ap,beq_iff_eq,decide_eq_true_eq]at h6;obtain⟨⟨rfl,h7⟩,h8⟩:=h6;rcases Nz hr h3 h4 hq hn with⟨k1,k2⟩|⟨k1,k2⟩
   ·rw[if_pos k1];have k3:=k2;simp only[M.wp]at k3;unfold X5 at k3;split at k3
    ·rename_i v0 s v hsy;split at k3
     ·rename_i A77 hss;obtain⟨cur,q1,_,q2⟩:=(show ∃cur,st[s]?=some cur∧v≤cur.1∧(v=cur.1→a.eval (.tmp _)=val a w0 s)from hr.slot h7 hsy);rw[hss]at q1;cases q1;exact hY ho (q2 k3.1) h8 (Mem.le.refl _) hr k3.2 hn (C2 h4)
     ·exact k3.elim
    ·exact hY ho (J2 (by rw[hr.n];exact h7)).symm h8 (Mem.le.refl _) hr k3 hn (C2 h4)
   ·rw[if_neg (by rw[k1];decide)]
    exact k2
  ·cases h6
theorem Acz{Y:Hd}{ro:Option Nat}{ops:Array Oper}{i:Nat}{o:Oper}{x:Ao}{Q:St→Prop}{next:Act→World→Prop}{E:Exit→Act→World→Prop}(hY:Auy P Y Fr w0)(hi:ops[i]?=some o)(h1:M7 P w0.n ops o x=true)(hr:Rel G σ Fr w0 st a w)(hq:x.run P Y Q st)
 (hn:∀G' σ' st' a' w',G.le G'→Rel G' σ' Fr w0 st' a' w'→Q st'→next a' w'):wpOpIn (Wd ro) 0 P ops E i next a w:=by
 have:=Abc (ro:=ro) (E:=E) hY h1 hr hq hn;unfold wpOpIn;rw[hi];dsimp only;split at this
 ·rename_i hw;rw[if_pos hw];exact this
 ·rename_i hw;rw[if_neg hw];exact⟨fun _ _=>trivial,this⟩
theorem Wz{Y:Hd}{ro:Option Nat}{ops:Array Oper}{Qx:Exit→Act→World→Prop}(hY:Auy P Y Fr w0):∀{l:List Oper} {m:List Ao} {Q:St→Prop} {G:Mem} {σ:Lab} {st:St} {a:Act} {w:World},
 Aze P w0.n ops l m=true→Rel G σ Fr w0 st a w→X9 P Y m Q st→(∀G' σ' st' a' w',G.le G'→Rel G' σ' Fr w0 st' a' w'→Q st'→Qx .normal a' w')→wpListIn (Wd ro) 0 P ops Qx l a w
 | [],[],Q,G,σ,st,a,w,_,hr,hq,hn=>hn G σ st a w (Mem.le.refl G) hr hq
 |o::l,i::m,Q,G,σ,st,a,w,hc,hr,hq,hn=>by
  simp only[Aze,Ap]at hc;obtain⟨h1,h2⟩:=hc;have:=Abc (ro:=ro) (E:=Qx) hY h1 hr hq fun G' σ' st' a' w' hG Hm hq'=>Wz (ro:=ro) hY h2 Hm hq' fun G'' σ'' As9 a'' w'' hG'=>hn G'' σ'' As9 a'' w'' (hG.trans hG')
  unfold wpListIn;split at this
  ·rename_i hw;rw[if_pos hw];exact this
  ·rename_i hw;rw[if_neg hw];exact⟨fun _ _=>trivial,this⟩
 | [],_::_,_,_,_,_,_,_,hc,_,_,_=>by cases hc
 |_::_,[],_,_,_,_,_,_,hc,_,_,_=>by simp[Aze]at hc
end
end Go.Ab
